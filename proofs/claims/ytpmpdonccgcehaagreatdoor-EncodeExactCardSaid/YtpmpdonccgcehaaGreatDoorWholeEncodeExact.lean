/-
 For every input the law EncodeExact returns true, and its arguments read afterwards as they read before; no condition.
-/
import Derived.Test.YtpmpdonccgcehaaGreatDoorPartEx10
import Derived.Test.YtpmpdonccgcehaaGreatDoorRows
import Derived.ProofKit
import Derived.JoinedOf
import Derived.Deep.DeepCutAuto
import Derived.Lib.QuietBelow
import Derived.WalkKit
import Derived.OpenShut
import Derived.ShutString
import Derived.ChangeOld
import Derived.Below
import Derived.Lib.SmallJoins
import Derived.Test.YtpmpdonccgcehaaGreatDoorCards
import Derived.Test.YtpmpdonccgcehaaGreatDoorTie
import Derived.LaidMore
import Derived.Lay
import Derived.SevenTiedAt
import Derived.Stop.Joined
section
/-
 The closed facts of the row of EncodeExact, each a lemma of its own (so that the kernel gives its memory back behind each).
-/
namespace Go.Proofs.YtpmpdonccgcehaaGreatDoor.encodeExact
theorem and_tt {a b : Bool} (h : a = true) (h' : b = true) : (a && b) = true := by rw [h, h']; rfl
set_option maxRecDepth 100000 in
set_option maxHeartbeats 100000000 in
theorem closed : joinedFacts Tryz.pinned.checked.prog 3 Tryz.f3 Rows.encodeExactSpec Rows.encodeExactRow = true := by
 unfold joinedFacts
 repeat' (with_reducible refine and_tt ?_ ?_)
 ·as_aux_lemma => kernel_rfl
 ·as_aux_lemma => kernel_rfl
 ·as_aux_lemma => kernel_rfl
 ·as_aux_lemma => kernel_rfl
 ·as_aux_lemma => kernel_rfl
 ·as_aux_lemma => kernel_rfl
 ·as_aux_lemma => kernel_rfl
 ·as_aux_lemma => kernel_rfl
 ·as_aux_lemma => kernel_rfl
 ·as_aux_lemma => kernel_rfl
 ·as_aux_lemma => kernel_rfl
 ·as_aux_lemma => kernel_rfl
 ·as_aux_lemma => kernel_rfl
 ·as_aux_lemma => kernel_rfl
 ·as_aux_lemma => kernel_rfl
 ·as_aux_lemma => kernel_rfl
 ·as_aux_lemma => kernel_rfl
 ·as_aux_lemma => kernel_rfl
 ·as_aux_lemma => kernel_rfl
 ·as_aux_lemma => kernel_rfl
 ·as_aux_lemma => kernel_rfl
 ·as_aux_lemma => kernel_rfl
 ·as_aux_lemma => kernel_rfl
 ·as_aux_lemma => kernel_rfl
 ·as_aux_lemma => kernel_rfl
 ·as_aux_lemma => kernel_rfl
 ·as_aux_lemma => kernel_rfl
 ·as_aux_lemma => kernel_rfl
 ·as_aux_lemma => kernel_rfl
 ·as_aux_lemma => kernel_rfl
 ·as_aux_lemma => kernel_rfl
 ·as_aux_lemma => kernel_rfl
end Go.Proofs.YtpmpdonccgcehaaGreatDoor.encodeExact
end
section
/- The law EncodeExact, walked: for every list of numbers, parameters, key, record, encoded record, field, salt and text it returns true and leaves what was there. -/
set_option linter.unusedSimpArgs false
set_option linter.unusedVariables false
set_option maxRecDepth 100000
namespace Go.Proofs.YtpmpdonccgcehaaGreatDoor
open Go.RowKit Cal
attribute [local go_sem] zah zaj zar zaq
/-- the boxes of the key, the raw record and the raw encoded record -/
structure BX3 (B : Nat) (xa xb id0 ver0 : Int) (ra : Option Addr) (rn rc : Nat) (oid over : Int) (oa : Option Addr) (on oc : Nat) (w : World) : Prop where
 k : w.heap[B]? = some (.cells #[.int .u64 xa, .int .u64 xb] 26 (0, 0))
 x : w.heap[B + 1]? = some (.cells #[.int .i64 id0, .int .i64 ver0, .slice ra rn rc] 29 (0, 0))
 o : w.heap[B + 2]? = some (.cells #[.int .i64 oid, .int .i64 over, .slice oa on oc] 32 (0, 0))
theorem BX3.below {B : Nat} {xa xb id0 ver0 : Int} {ra : Option Addr} {rn rc : Nat} {oid over : Int} {oa : Option Addr} {on oc : Nat} {w w' : World} (h : BX3 B xa xb id0 ver0 ra rn rc oid over oa on oc w) (hb : Below w.heap.size w w') : BX3 B xa xb id0 ver0 ra rn rc oid over oa on oc w' :=
 ⟨zab hb (zaa h.k) h.k, zab hb (zaa h.x) h.x, zab hb (zaa h.o) h.o⟩
set_option maxHeartbeats 16000000 in
theorem eexact_walk (a : Option Addr) (n cap : Nat) (zs : List Int) (pv : Value) (P0 : List ParL) (xa xb : Int) (id0 ver0 : Int) (sv0 : Value) (vals0 : List (List UInt8)) (oid over : Int) (ov : Value) (oF : List BitsL) (f0 : Int) (saltB textB : ByteArray) (w : World)
  (hr : IsRow .i64 w a n cap zs) (hpars : Vec w zaw 3 zbc pv P0 ∧ (∀ p ∈ P0, InI p.len) ∧ P0.length ≤ maxLen) (hraw : Vec w zaw 1 za2 sv0 vals0) (hodd : BitsVec w zaw ov oF ∧ (∀ b ∈ oF, BitsOk b) ∧ oF.length ≤ maxLen) (hi : (Lit.int .i64 f0).wf = true) (hsb : saltB.size ≤ maxLen) (htb : textB.size ≤ maxLen) (hM : VarsAt w) :
  Calls Tryz.prog 3 #[.slice a n cap, pv, .agg #[.int .u64 xa, .int .u64 xb], .agg #[.int .i64 id0, .int .i64 ver0, sv0], .agg #[.int .i64 oid, .int .i64 over, ov], .int .i64 f0, .string saltB, .string textB] w fun e w' => e = .returned (.bool true) ∧ Below w.heap.size w w' := by
 obtain ⟨salt, rfl⟩ : ∃ l : List UInt8, saltB = ⟨l.toArray⟩ := ⟨saltB.data.toList, by simp⟩
 obtain ⟨text, rfl⟩ : ∃ l : List UInt8, textB = ⟨l.toArray⟩ := ⟨textB.data.toList, by simp⟩
 have hsl : salt.length ≤ 9223372036854775807 := by rw [zaj] at hsb; unfold maxLen at hsb; omega
 have htl : text.length ≤ 9223372036854775807 := by rw [zaj] at htb; unfold maxLen at htb; omega
 have hf0 := wf_i64 hi
 obtain ⟨hp0, hpi, hpl⟩ := hpars
 obtain ⟨ho0, hob, hol⟩ := hodd
 obtain ⟨ra, rc, rfl⟩ := hraw.slice
 obtain ⟨pa, pc, rfl⟩ := hp0.slice
 obtain ⟨oa, oc, rfl⟩ := ho0.slice
 have hpl2 : P0.length ≤ 9223372036854775807 := by unfold maxLen at hpl; exact hpl
 have HR := zi5 hr; have HRaw := zi5 hraw; have HP0 := zi5 hp0; have HPI := zi5 hpi; have HO0 := zi5 ho0; have HOB := zi5 hob; have HOL := zi5 hol; have HVar := zi5 hM; have HF0 := zi5 hf0
 clear hr hraw hp0 hpi hpl ho0 hob hol hi hsb htb hM hf0
 go_enter Tryz.func3, Tryz.ntmps3
 go_wp2_with fail
 refine zae (fun W0 hW0 => ?_)
 have hb0 : Below w.heap.size w W0 := by rw [hW0]; exact (((Below.refl w.heap.size w).alloc (Nat.le_refl _) _).alloc (by simp) _).alloc (by simp; omega) _
 have hk0 : W0.heap[w.heap.size]? = some (.cells #[.int .u64 xa, .int .u64 xb] 26 (0, 0)) := by rw [hW0]; exact zaf (zaf (zac rfl))
 have hx0 : W0.heap[w.heap.size + 1]? = some (.cells #[.int .i64 id0, .int .i64 ver0, .slice ra vals0.length rc] 29 (0, 0)) := by rw [hW0]; exact zaf (zac (by simp))
 have hc0 : W0.heap[w.heap.size + 2]? = some (.cells #[.int .i64 oid, .int .i64 over, .slice oa oF.length oc] 32 (0, 0)) := by rw [hW0]; exact zac (by simp)
 clear hW0
 refine (zhg _).mono ?_; rintro e w1 ⟨rfl, hb1⟩
 have HB1 := zi5 (hb0.trans (hb1.mono hb0.size))
 have HE1 := zi5 (show BX3 w.heap.size xa xb id0 ver0 ra vals0.length rc oid over oa oF.length oc w1 from (⟨hk0, hx0, hc0⟩ : BX3 _ _ _ _ _ _ _ _ _ _ _ _ _ W0).below hb1)
 clear hb0 hk0 hx0 hc0 hb1
 by_cases hn : n ≤ 400
 rotate_left
 ·have hd : decide (n ≤ 400) = false := by simpa using hn
  go_wp2_with fail
  refine (few_any a n cap _).mono ?_; rintro e w' ⟨rfl, rfl⟩
  go_wp2_with fail
  refine (zhg _).mono ?_; rintro e w9 ⟨rfl, hb9⟩
  go_wp2_with fail
  go_ret
  exact ⟨rfl, HB1.out.trans (hb9.mono HB1.out.size)⟩
 have hd : decide (n ≤ 400) = true := by simpa using hn
 obtain ⟨x0, x1, x2⟩ := zai HE1.out.x
 have zX1 := zaa HE1.out.x
 by_cases hn0 : P0.length ≤ 20
 rotate_left
 ·have d0 : decide ((20 : Int) < P0.length) = true := by simp; omega
  go_wp2_with fail
  refine (few_any a n cap _).mono ?_; rintro e w' ⟨rfl, rfl⟩
  go_wp2_with fail
  refine (zhg _).mono ?_; rintro e w9 ⟨rfl, hb9⟩
  go_wp2_with fail
  go_ret
  exact ⟨rfl, HB1.out.trans (hb9.mono HB1.out.size)⟩
 have d0 : decide ((20 : Int) < P0.length) = false := by simp; omega
 by_cases hn1 : vals0.length ≤ 20
 rotate_left
 ·have d1 : decide ((20 : Int) < vals0.length) = true := by simp; omega
  go_wp2_with fail
  refine (few_any a n cap _).mono ?_; rintro e w' ⟨rfl, rfl⟩
  go_wp2_with fail
  refine (zhg _).mono ?_; rintro e w9 ⟨rfl, hb9⟩
  go_wp2_with fail
  go_ret
  exact ⟨rfl, HB1.out.trans (hb9.mono HB1.out.size)⟩
 have d1 : decide ((20 : Int) < vals0.length) = false := by simp; omega
 go_wp2_with fail
 refine (few_any a n cap _).mono ?_; rintro e w' ⟨rfl, rfl⟩
 go_wp2_with fail
 refine (eshort_any zaw _ vals0 _ (HRaw.out.below HB1.out) (by omega)).mono ?_
 rintro e w2 ⟨rfl, hb⟩
 have HB2 := zi5 (HB1.out.trans (hb.mono HB1.out.size))
 have HE2 := zi5 (HE1.out.below hb)
 clear hb HB1 HE1 x0 x1 x2 zX1
 by_cases hs : (vals0.all fun x => decide (x.length ≤ 200)) = true
 rotate_left
 ·rw [Bool.eq_false_iff.2 hs]
  go_wp2_with fail
  refine (zhg _).mono ?_; rintro e w9 ⟨rfl, hb9⟩
  go_wp2_with fail
  go_ret
  exact ⟨rfl, HB2.out.trans (hb9.mono HB2.out.size)⟩
 rw [hs]
 have HSR := zi5 (show ShortR ⟨id0, ver0, vals0⟩ from ⟨hn1, fun x hx => by simpa using List.all_eq_true.1 hs x hx⟩)
 clear hs d1 hn1
 obtain ⟨x0, x1, x2⟩ := zai HE2.out.o
 have zX2 := zaa HE2.out.o
 go_wp2_with fail
 refine (esmall_any zaw _ _ _ oF _ (HO0.out.below HB2.out) HOL.out (fun b hb => (HOB.out b hb).words)).mono ?_
 rintro e w3 ⟨⟨b, rfl, hbk⟩, hb⟩
 have HB3 := zi5 (HB2.out.trans (hb.mono HB2.out.size))
 have HE3 := zi5 (HE2.out.below hb)
 clear hb HB2 HE2 x0 x1 x2 zX2
 cases b
 ·clear hbk
  go_wp2_with fail
  refine (zhg _).mono ?_; rintro e w9 ⟨rfl, hb9⟩
  go_wp2_with fail
  go_ret
  exact ⟨rfl, HB3.out.trans (hb9.mono HB3.out.size)⟩
 obtain ⟨ho20, hO20⟩ := hbk rfl
 have HSO := zi5 (show SmallE ⟨oid, over, oF⟩ from ⟨by show oF.length ≤ 1000000; omega, fun b hb => by have := hO20 b hb; omega, fun b hb => (HOB.out b hb).hex⟩)
 clear hbk hO20 HOB HOL
 go_wp2_with fail
 refine zae (fun W4 hW4 => ?_)
 have hb4 := xal hW4
 have hs4 : W4.heap[w3.heap.size]? = some (.cells (([salt] : List (List UInt8)).flatMap za2).toArray 9 (0, 0)) := by rw [hW4]; exact zac rfl
 have hSV : Vec W4 zaw 1 za2 (.slice (some ⟨w3.heap.size, 0, none⟩) 1 1) [salt] := zcn (k := 1) (enc := za2) (L := [salt]) (S := zaw) (fun _ => rfl) hs4 trivial 1 rfl
 clear hW4 hs4
 refine (eshort_any zaw _ [salt] _ hSV (by simp)).mono ?_
 rintro e w5 ⟨rfl, hb⟩
 have hb45 := hb4.trans (hb.mono hb4.size)
 have HB5 := zi5 (HB3.out.trans (hb45.mono HB3.out.size))
 have HE5 := zi5 (HE3.out.below hb45)
 clear hb hb4 hb45 hSV HB3 HE3
 by_cases hs : ([salt].all fun x => decide (x.length ≤ 200)) = true
 rotate_left
 ·rw [Bool.eq_false_iff.2 hs]
  go_wp2_with fail
  refine (zhg _).mono ?_; rintro e w9 ⟨rfl, hb9⟩
  go_wp2_with fail
  go_ret
  exact ⟨rfl, HB5.out.trans (hb9.mono HB5.out.size)⟩
 rw [hs]
 have hsalt : salt.length ≤ 200 := by simpa using hs
 clear hs
 by_cases ht : text.length ≤ 900
 rotate_left
 ·have d2 : decide ((900 : Int) < text.length) = true := by simp; omega
  go_wp2_with fail
  refine (zhg _).mono ?_; rintro e w9 ⟨rfl, hb9⟩
  go_wp2_with fail
  go_ret
  exact ⟨rfl, HB5.out.trans (hb9.mono HB5.out.size)⟩
 have d2 : decide ((900 : Int) < text.length) = false := by simp; omega
 go_wp2_with fail
 refine (new_any a n cap _).mono ?_; rintro e w' ⟨rfl, rfl⟩
 have Hdk := zi5 (deck_law (cap := cap) hn HR.out HB5.out)
 have zB5 := HB5.out.size
 have zC5 := zaa HE5.out.o
 obtain ⟨Wd, hWd⟩ : ∃ Wd : World, w5.alloc (.cells #[.slice a n cap, .int .i64 0, .int .u64 11400714819323198485] 97) = Wd := ⟨_, rfl⟩
 have HBd := zi5 (show Below w.heap.size w Wd by rw [← hWd]; exact HB5.out.alloc HB5.out.size _)
 have HEd := zi5 (show BX3 w.heap.size xa xb id0 ver0 ra vals0.length rc oid over oa oF.length oc Wd by
  rw [← hWd]; exact ⟨zaf HE5.out.k, zaf HE5.out.x, zaf HE5.out.o⟩)
 rw [hWd] at Hdk ⊢
 have zWd : Wd.heap.size = w5.heap.size + 1 := by rw [← hWd]; simp
 obtain ⟨D, hD⟩ : ∃ D, w5.heap.size = D := ⟨_, rfl⟩
 rw [hD] at Hdk zB5 zC5 zWd ⊢
 clear hWd hD HB5 HE5 hn d0 d2 hd
 go_wp2_with fail
 refine (schema_deal _ _ Hdk.out).mono ?_
 rintro e w6 ⟨vf, vt, vn, vs, s, rfl, hs, hsd, mv⟩
 obtain ⟨af, cf, rfl⟩ := hs.1.slice
 obtain ⟨at', ct, rfl⟩ := hs.2.1.slice
 obtain ⟨an, cn, rfl⟩ := hs.2.2.1.slice
 obtain ⟨as', cs, rfl⟩ := hs.2.2.2.slice
 have zD := mv.deck.lt
 have hlen5 := (zcf hsd.check).1.2
 have hlen1 := hsd.some
 obtain ⟨N, hN⟩ : ∃ N, s.fields.length = N := ⟨_, rfl⟩
 rw [hN] at hs hlen5 hlen1 ⊢
 obtain ⟨nt, hnt⟩ : ∃ nt, s.rules.titles.length = nt := ⟨_, rfl⟩
 obtain ⟨nk, hnk⟩ : ∃ nk, s.rules.nicks.length = nk := ⟨_, rfl⟩
 obtain ⟨ns, hns⟩ : ∃ ns, s.rules.streets.length = ns := ⟨_, rfl⟩
 rw [hnt, hnk, hns] at hs ⊢
 have M6 := zi5 mv; have HS := zi5 hs; have HSD := zi5 hsd; have HN := zi5 hN
 clear mv hs hsd Hdk hN hnt hnk hns
 go_wp2_with fail
 refine zae (fun W7 hW7 => ?_)
 have hb7 := xal hW7
 have HY7 := zi5 (show W7.heap[w6.heap.size]? = some (.cells #[.slice af N cf, .slice at' nt ct, .slice an nk cn, .slice as' ns cs] 44 (0, 0)) by rw [hW7]; exact zac rfl)
 have M7 := zi5 (M6.out.below hb7)
 have z67 := M6.out.size
 have hoff : ∀ b, b < W7.heap.size → Wd.heap.size ≤ b → b ≠ D := fun b _ h => by omega
 have hS7 := HS.out.below hb7
 have HS7 := zi5 (show SchemaAt W7 (Off D) (.slice af N cf) (.slice at' nt ct) (.slice an nk cn) (.slice as' ns cs) s from ⟨hS7.1.off hoff, hS7.2.1.off hoff, hS7.2.2.1.off hoff, hS7.2.2.2.off hoff⟩)
 obtain ⟨Y, hY⟩ : ∃ Y, w6.heap.size = Y := ⟨_, rfl⟩
 rw [hY] at HY7 z67 ⊢
 have hyD : Y ≠ D := by omega
 clear hW7 hb7 hoff hS7 HS hY M6
 refine (pars_own D N W7 M7.out.deck hlen5).mono ?_
 rintro e w8 ⟨bv, Bt, rfl, hov, hBt⟩
 have hbl := hBt.len
 have zD7 := M7.out.deck.lt
 have hvec := hov.vec (size := 3) (enc := zbc) (fun _ => rfl)
 obtain ⟨gb, cb, cur, rfl, hgW, hrow, -, -, -, -⟩ : ∃ g cap cur, bv = .slice (some ⟨g, 0, none⟩) Bt.length cap ∧ W7.heap.size ≤ g ∧ w8.heap[g]? = some (.cells cur 49 (0, 0)) ∧ Bt.length ≤ cap ∧ cap ≤ maxLen ∧ cur.size = cap * 3 ∧ cur.toList.take (Bt.length * 3) = Bt.flatMap zbc := by
  rcases hov.1.2 with ⟨_, h0⟩ | h
  ·omega
  ·exact h
 have mv := hov.2
 have HBV := zi5 (hvec.off (D := D) (fun b _ h => by have h' : W7.heap.size ≤ b := h; omega))
 have HRow := zi5 hrow
 have HBI := zi5 (pars_in hBt)
 have M8 := zi5 (M7.out.trans mv); have HY8 := zi5 (mv.blk hyD HY7.out); have HS8 := zi5 (HS7.out.moved (fun b h => h) mv)
 have hgD : gb ≠ D := by omega
 have hY7 := HY7.out
 have zY7 := zaa hY7
 have HY7' := zi5 hY7
 have MV8 := zi5 mv
 clear mv hBt hvec hov hrow hY7
 go_wp2_with fail
 refine (zb5 D _ N M8.out.deck (by omega) (by omega)).mono ?_
 rintro e w9 ⟨f, rfl, f0', f1', mv⟩
 have MV9 := zi5 (MV8.out.trans mv); have HRow9 := zi5 (mv.blk hgD HRow.out); have HBV9 := zi5 (HBV.out.movedD mv)
 clear mv HRow HBV
 go_wp2_with fail
 refine (zb5 D _ ((N : Int) + 1) MV9.out.deck (by omega) (by omega)).mono ?_
 rintro e w10 ⟨g, rfl, g0', g1', mv⟩
 have MV10 := zi5 (MV9.out.trans mv); have HRow10 := zi5 (mv.blk hgD HRow9.out); have HBV10 := zi5 (HBV9.out.movedD mv)
 clear mv HRow9 HBV9 MV8 MV9
 obtain ⟨fn, rfl⟩ : ∃ q : Nat, f = q := ⟨f.toNat, by omega⟩
 have hfn : fn < Bt.length := by omega
 have hfi : (fn : Int) < (Bt.length : Int) := by omega
 obtain ⟨b', o', e', lb', hc'⟩ := HBV10.out.get fn hfn
 cases e'
 have c2 := hc' 2 _ rfl
 rw [Nat.zero_add] at c2
 have fz := frozen_of_row _ _ (fn * 3 + 2) _ _ HRow10.out
 clear hc'
 have hgY : gb ≠ Y := by omega
 have HY10 := zi5 (MV10.out.blk hyD HY7'.out)
 obtain ⟨p0, p1, p2, p3⟩ := zan (zam (a := ⟨gb, fn * 3 + 2, none⟩) (v := .int .i64 g) HY10.out (by show Y ≠ gb; omega))
 go_wp2_with fail
 refine zae (fun W11 hW11 => ?_)
 have MV11 := zi5 (show Moved D W7 W11 by rw [hW11]; exact MV10.out.set (a := ⟨gb, fn * 3 + 2, none⟩) hgW _)
 have hbend := pars_bend HBV10.out fn hfn g
 rw [Nat.zero_add, ← hW11] at hbend
 have hbin := bend_in HBI.out fn hfn g
 obtain ⟨BB, hBB⟩ : ∃ BB, Bt.set fn ⟨Bt[fn].len, Bt[fn].hashes, g⟩ = BB := ⟨_, rfl⟩
 have hBl : BB.length = N := by rw [← hBB, List.length_set, hbl]
 rw [hBB] at hbend hbin
 have HBV11 := zi5 hbend; have HBI11 := zi5 hbin
 have HY11 := zi5 (show W11.heap[Y]? = some (.cells #[.slice af N cf, .slice at' nt ct, .slice an nk cn, .slice as' ns cs] 44 (0, 0)) by rw [hW11]; exact zam HY10.out (by show Y ≠ gb; omega))
 have HS11 := zi5 (HS7.out.moved (fun b h => h) MV11.out)
 clear hW11 hbend hbin hBB HBV10 HBI HRow10 MV10 HY10 c2 fz p0 p1 p2 p3 HS8 HY8 M8 hbl hfn hfi
 refine (records_deal D (Off D) _ _ _ _ s 4 W11 MV11.out.deck HS11.out (fun b h => h) HSD.out (by decide)).mono ?_
 rintro e w12 ⟨rv, R, rfl, hrv, hRok, hR4, -, mv⟩
 obtain ⟨arv, crv, rfl⟩ := hrv.slice
 have zD11 := MV11.out.deck.lt
 have HRs := zi5 (hrv.off (D := D) (fun b _ h => by have h' : W11.heap.size ≤ b := h; omega))
 have HRR := zi5 (show ∀ q ∈ R, ShortR q from fun q hq => ShortR.of HSD.out.check ((allN_ok hRok.all).2.2 q hq))
 have m12 := MV11.out.trans mv
 have md12 := M7.out.trans m12
 have K12 := zi5 (show EX D w.heap.size Y Wd (xa, xb) ⟨id0, ver0, vals0⟩ ra rc ⟨oid, over, oF⟩ oa oc (Off D) (.slice af N cf) (.slice at' nt ct) (.slice an nk cn) (.slice as' ns cs) s (.slice arv R.length crv) R w12 from
  ⟨md12, md12.blk (by omega) HEd.out.k, md12.blk (by omega) HEd.out.x, md12.blk (by omega) HEd.out.o, mv.blk hyD HY11.out, HS11.out.moved (fun b h => h) mv, HRs.out, ((HRaw.out.off (D := D) (fun b h _ => by omega)).below HBd.out).movedD md12, ((HO0.out.off (D := D) (fun b h _ => by omega)).below HBd.out).movedD md12, fun b h => h, by omega, hyD⟩)
 have HB12 := zi5 (HBV11.out.movedD mv)
 have HP12 := zi5 (((HP0.out.off (D := D) (fun b h _ => by omega)).below HBd.out).movedD md12)
 clear mv hrv hRok HY11 HS11 HRs MV11 HEd HP0 HO0 HRaw HBV11 m12 md12 HY7 HY7' HS7 M7
 obtain ⟨p0, p1, p2, p3⟩ := zan K12.out.y
 have hlen4 : N ≤ 4 := by have := HSD.out.fields.len; have := HN.out; omega
 go_wp2_with fail
 refine (zim D N w12 K12.out.m.deck hlen5).mono ?_
 rintro e w13 ⟨qv, Q1, rfl, hqv, hQ1, mv⟩
 obtain ⟨q1a, q1c, rfl⟩ := hqv.slice
 have zD12 := K12.out.m.deck.lt
 have hq1l := hQ1.len
 have HQV1 := zi5 (hqv.off (D := D) (fun b _ h => by have h' : w12.heap.size ≤ b := h; omega))
 have HQI1 := zi5 (pars_in hQ1)
 have K13 := zi5 (K12.out.moved mv); have HB13 := zi5 (HB12.out.movedD mv); have HP13 := zi5 (HP12.out.movedD mv)
 clear mv hqv hQ1 HB12 HP12 K12 p0 p1 p2 p3
 go_wp2_with fail
 have hpd := zim D (N + 1) w13 K13.out.m.deck (by omega)
 rw [show ((N + 1 : Nat) : Int) = (N : Int) + 1 by omega] at hpd
 refine hpd.mono ?_
 rintro e w14 ⟨qv, Q2, rfl, hqv, hQ2, mv⟩
 obtain ⟨q2a, q2c, rfl⟩ := hqv.slice
 have zD13 := K13.out.m.deck.lt
 have hq2l := hQ2.len
 have HQV2 := zi5 (hqv.off (D := D) (fun b _ h => by have h' : w13.heap.size ≤ b := h; omega))
 have HQI2 := zi5 (pars_in hQ2)
 have K14 := zi5 (K13.out.moved mv); have HB14 := zi5 (HB13.out.movedD mv); have HP14 := zi5 (HP13.out.movedD mv); have HQV14 := zi5 (HQV1.out.movedD mv)
 clear mv hqv hQ2 HB13 HP13 K13 HQV1 hpd
 go_wp2_with fail
 refine zao (fun WL hWL => ?_)
 have mL : Moved D w14 WL := by rw [hWL]; exact (Moved.start K14.out.m.deck).alloc _
 have hGL : WL.heap[w14.heap.size]? = some (.cells #[.slice pa P0.length pc, .slice q1a Q1.length q1c, .slice (some ⟨gb, 0, none⟩) BB.length cb, .slice q2a Q2.length q2c] 23 (0, 0)) := by rw [hWL]; first | exact zac rfl | (rw [hBl, hq1l, hq2l]; exact zac rfl) | (rw [hBl, hq1l]; exact zac rfl) | (rw [hBl]; exact zac rfl)
 have HGL := zi5 hGL
 have KL := zi5 (K14.out.moved mL)
 have z14 := K14.out.m.deck.lt
 have hGD : w14.heap.size ≠ D := by omega
 have HQL := zi5 (show ∀ k, k < 4 → ∃ (v : Value) (P : List ParL), #[Value.slice pa P0.length pc, .slice q1a Q1.length q1c, .slice (some ⟨gb, 0, none⟩) BB.length cb, .slice q2a Q2.length q2c][k]? = some v ∧ Vec WL (Off D) 3 zbc v P ∧ (∀ p ∈ P, InI p.len) ∧ P.length ≤ 20 by
  intro k hk
  rcases (by omega : k = 0 ∨ k = 1 ∨ k = 2 ∨ k = 3) with rfl | rfl | rfl | rfl
  ·exact ⟨_, P0, rfl, HP14.out.movedD mL, HPI.out, hn0⟩
  ·exact ⟨_, Q1, rfl, HQV14.out.movedD mL, HQI1.out, by omega⟩
  ·refine ⟨_, BB, rfl, ?_, HBI11.out, by omega⟩
   have h := HB14.out.movedD mL
   obtain ⟨a', c', e'⟩ := h.slice
   have hl := h.len
   first | exact h | (rw [hl.1] at h; exact h)
  ·exact ⟨_, Q2, rfl, HQV2.out.movedD mL, HQI2.out, by omega⟩)
 have hN5' : N ≤ 4 := hlen4
 clear hWL mL hGL HB14 HP14 HQV14 HQV2 HQI1 HQI2 HBI11 K14
 skip
 refine eexLoop w D Y Wd (xa, xb) ⟨id0, ver0, vals0⟩ ra rc ⟨oid, over, oF⟩ oa oc (Off D) af at' an as' N cf nt ct nk cn ns cs s HSD HN arv crv R hlen1 hlen4 HSR hR4 HRR HSO WL KL _ _ _ _ _ HGL hGD HQL _ _ _ _ _ _ _ _ _ _ _ _ _ _ _ _ _ _ _ _ _ _ _ _ _ _ _ _ _ _ _ _ _ _ _ _ _ _ _ _ _ _ _ _ _ _ _ _ _ _ _ _ _ _ _ _ _ _ _ _ _ _ _ _ _ _ _ _ _ _ _ _ _ _ _ _ _ _ _ _ _ _ _ _ _ _ _ _ _ _ _ _ _ _ _ _ _ _ _ _ _ _ _ _ _ _ _ _ _ _ _ _ _ _ _ _ _ _ _ _ _ _ _ _ _ _ _ _ _ _ _ _ _ _ _ _ _ _ _ _ _ _ _ _ _ _ _ _ _ _ _ _ _ _ _ _ _ _ _ _ _ _ _ _ _ _ _ _ _ _ _ _ _ _ _ _ _ _ _ _ _ _ _ _ _ _ _ _ _ _ _ _ _ _ _ _ _ _ _ _ _ _ _ _ _ _ _ _ _ _ _ _ _ _ _ _ _ _ _ _ _ _ _ _ _ _ _ _ _ _ _ _ _ _ _ _ _ _ _ _ _ _ _ _ _ _ _ _ _ _ _ _ _ _ _ _ _ _ _ _ _ _ _ _ _ _ _ _ _ _ _ _ _ _ _ _ _ _ _ _ _ _ _ _ _ _ _ _ _ _ _ _ _ _ _ _ _ _ _ _ _ _ _ _ _ _ _ _ _ _ _ _ _ _ _ _ _ _ _ _ _ _ _ _ _ _ _ _ _ _ _ _ _ _ _ _ _ _ _ _ _ _ _ _ _ _ _ ?_
 intro tl0 tl1 tl2 tl3 tl4 tl8 tl9 tl13 tl14 tl15 tl16 tl20 tl22 tl23 tl24 tl25 tl26 tl27 tl28 tl29 tl30 tl31 tl32 tl33 tl34 tl35 tl36 tl37 tl38 tl39 tl40 tl41 tl42 tl43 tl44 tl45 tl46 tl47 tl48 tl49 tl50 tl51 tl52 tl53 tl54 tl55 tl56 tl57 tl58 tl59 tl60 tl61 tl62 tl63 tl64 tl65 tl66 tl67 tl68 tl69 tl70 tl71 tl72 tl73 tl74 tl75 tl76 tl77 tl78 tl79 tl80 tl81 tl82 tl83 tl84 tl85 tl86 tl87 tl88 tl89 tl90 tl91 tl92 tl93 tl94 tl95 tl96 tl97 tl98 tl99 tl100 tl101 tl102 tl103 tl104 tl105 tl106 tl107 tl108 tl109 tl110 tl111 tl112 tl113 tl114 tl115 tl116 tl117 tl118 tl119 tl120 tl121 tl122 tl123 tl124 tl125 tl126 tl127 tl128 tl129 tl130 tl131 tl132 tl133 tl134 tl135 tl136 tl137 tl138 tl139 tl140 tl141 tl142 tl143 tl144 tl145 tl146 tl147 tl148 tl149 tl150 tl151 tl152 tl153 tl154 tl155 tl156 tl157 tl158 tl159 tl160 tl161 tl162 tl163 tl164 tl165 tl166 tl167 tl168 tl169 tl170 tl171 tl172 tl173 tl174 tl175 tl176 tl177 tl178 tl179 tl180 tl181 tl182 tl183 tl184 tl185 tl186 tl187 tl188 tl189 tl190 tl191 tl192 tl193 tl194 tl195 tl196 tl197 tl198 tl199 tl200 tl201 tl202 tl203 tl204 tl205 tl206 tl207 tl208 tl209 tl210 tl211 tl212 tl213 tl214 tl215 tl216 tl217 tl218 tl219 tl220 tl221 tl222 tl223 tl224 tl225 tl226 tl227 tl228 tl229 tl230 tl231 tl232 tl233 tl234 tl235 tl236 tl237 tl238 tl239 tl240 tl241 tl242 tl243 tl244 tl245 tl246 tl247 tl248 tl249 tl250 tl251 tl252 tl253 tl254 tl255 tl256 tl257 tl258 tl259 tl260 tl261 tl262 tl263 tl264 tl265 tl266 tl267 tl268 tl269 tl270 tl271 tl272 tl273 tl274 tl275 tl276 tl277 tl278 tl279 tl280 tl281 tl282 tl283 tl284 tl285 tl286 tl287 tl288 tl289 tl290 tl291 tl292 tl293 tl294 tl295 tl296 tl297 tl298 tl299 tl300 tl301 tl302 tl303 tl304 tl305 tl306 tl307 tl308 tl309 tl310 tl311 tl312 tl313 tl314 tl315 tl316 tl317 tl318 tl319 tl320 tl321 tl322 tl323 tl324 tl325 tl326 tl327 tl328 tl329 tl330 tl331 tl332 tl333 tl334 tl335 tl336 tl337 tl338 tl339 tl340 tl341 tl342 tl343 tl344 tl345 tl346 tl347 tl348 tl349 tl350 tl351 tl352 wx hR
 have mE := hR.out
 have KE := zi5 (KL.out.moved mE)
 clear mE hR
 obtain ⟨w15, hw15⟩ : ∃ u, u = wx := ⟨_, rfl⟩
 subst hw15
 go_step
 go_step
 refine eexOwn w D Y Wd (xa, xb) ⟨id0, ver0, vals0⟩ ra rc ⟨oid, over, oF⟩ oa oc (Off D) af at' an as' N cf nt ct nk cn ns cs s HSD HN arv crv R hlen1 hlen4 HSR hR4 HRR HSO _ KE _ _ _ _ _ _ _ _ _ _ _ _ _ _ _ _ _ _ _ _ _ _ _ _ _ _ _ _ _ _ _ _ _ _ _ _ _ _ _ _ _ _ _ _ _ _ _ _ _ _ _ _ _ _ _ _ _ _ _ _ _ _ _ _ _ _ _ _ _ _ _ _ _ _ _ _ _ _ _ _ _ _ _ _ _ _ _ _ _ _ _ _ _ _ _ _ _ _ _ _ _ _ _ _ _ _ _ _ _ _ _ _ _ _ _ _ _ _ _ _ _ _ _ _ _ _ _ _ _ _ _ _ _ _ _ _ _ _ _ _ _ _ _ _ _ _ _ _ _ _ _ _ _ _ _ _ _ _ _ _ _ _ _ _ _ _ _ _ _ _ _ _ _ _ _ _ _ _ _ _ _ _ _ _ _ _ _ _ _ _ _ _ _ _ _ _ _ _ _ _ _ _ _ _ _ _ _ _ _ _ _ _ _ _ _ _ _ _ _ _ _ _ _ _ _ _ _ _ _ _ _ _ _ _ _ _ _ _ _ _ _ _ _ _ _ _ _ _ _ _ _ _ _ _ _ _ _ _ _ _ _ _ _ _ _ _ _ _ _ _ _ _ _ _ _ _ _ _ _ _ _ _ _ _ _ _ _ _ _ _ _ _ _ _ _ _ _ _ _ _ _ _ _ _ _ _ _ _ _ _ _ _ _ _ _ _ _ _ _ _ _ _ _ _ _ _ _ _ _ _ _ _ _ _ _ _ _ _ _ _ _ _ _ _ _ _ _ _ _ _ _ ?_
 intro ul0 ul1 ul2 ul3 ul4 ul8 ul9 ul11 ul13 ul14 ul15 ul16 ul20 ul21 ul22 ul23 ul24 ul25 ul26 ul27 ul28 ul29 ul30 ul31 ul32 ul33 ul34 ul35 ul36 ul37 ul38 ul39 ul40 ul41 ul42 ul43 ul44 ul45 ul46 ul47 ul48 ul49 ul50 ul51 ul52 ul53 ul54 ul55 ul56 ul57 ul58 ul59 ul60 ul61 ul62 ul63 ul64 ul65 ul66 ul67 ul68 ul69 ul70 ul71 ul72 ul73 ul74 ul75 ul76 ul77 ul78 ul79 ul80 ul81 ul82 ul83 ul84 ul85 ul86 ul87 ul88 ul89 ul90 ul91 ul92 ul93 ul94 ul95 ul96 ul97 ul98 ul99 ul100 ul101 ul102 ul103 ul104 ul105 ul106 ul107 ul108 ul109 ul110 ul111 ul112 ul113 ul114 ul115 ul116 ul117 ul118 ul119 ul120 ul121 ul122 ul123 ul124 ul125 ul126 ul127 ul128 ul129 ul130 ul131 ul132 ul133 ul134 ul135 ul136 ul137 ul138 ul139 ul140 ul141 ul142 ul143 ul144 ul145 ul146 ul147 ul148 ul149 ul150 ul151 ul152 ul153 ul154 ul155 ul156 ul157 ul158 ul159 ul160 ul161 ul162 ul163 ul164 ul165 ul166 ul167 ul168 ul169 ul170 ul171 ul172 ul173 ul174 ul175 ul176 ul177 ul178 ul179 ul180 ul181 ul182 ul183 ul184 ul185 ul186 ul187 ul188 ul189 ul190 ul191 ul192 ul193 ul194 ul195 ul196 ul197 ul198 ul199 ul200 ul201 ul202 ul203 ul204 ul205 ul206 ul207 ul208 ul209 ul210 ul211 ul212 ul213 ul214 ul215 ul216 ul217 ul218 ul219 ul220 ul221 ul222 ul223 ul224 ul225 ul226 ul227 ul228 ul229 ul230 ul231 ul232 ul233 ul234 ul235 ul236 ul237 ul238 ul239 ul240 ul241 ul242 ul243 ul244 ul245 ul246 ul247 ul248 ul249 ul250 ul251 ul252 ul253 ul254 ul255 ul256 ul257 ul258 ul259 ul260 ul261 ul262 ul263 ul264 ul265 ul266 ul267 ul268 ul269 ul270 ul271 ul272 ul273 ul274 ul275 ul276 ul277 ul278 ul279 ul280 ul281 ul282 ul283 ul284 ul285 ul286 ul287 ul288 ul289 ul290 ul291 ul292 ul293 ul294 ul295 ul296 ul297 ul298 ul299 ul300 ul301 ul302 ul303 ul304 ul305 ul306 ul307 ul308 ul309 ul310 ul311 ul312 ul313 ul314 ul315 ul316 ul317 ul318 ul319 ul320 ul321 ul322 ul323 ul324 ul325 ul326 ul327 ul328 ul329 ul330 ul331 ul332 ul333 ul334 ul335 ul336 ul337 ul338 ul339 ul340 ul341 ul342 ul343 ul344 ul345 ul346 ul347 ul348 ul349 ul350 ul351 ul352 wx hR
 obtain ⟨Z, x, X, rfl, hZ, hX, hsx, mO⟩ := hR.out
 clear hR
 have KO := zi5 (KE.out.moved mO); have HZ := zi5 hZ; have HXv := zi5 hX; have HSx := zi5 hsx
 clear hZ hX hsx mO
 go_step
 exact eexTail w D Y Wd (xa, xb) ⟨id0, ver0, vals0⟩ ra rc ⟨oid, over, oF⟩ oa oc (Off D) af at' an as' N cf nt ct nk cn ns cs s HSD HN arv crv R hlen1 hlen4 HSR hR4 HRR HSO f0 salt text HF0 hsalt ht HVar _ KO Z x X HZ HXv HSx HBd (by omega) _ _ _ _ _ _ _ _ _ _ _ _ _ _ _ _ _ _ _ _ _ _ _ _ _ _ _ _ _ _ _ _ _ _ _ _ _ _ _ _ _ _ _ _ _ _ _ _ _ _ _ _ _ _ _ _ _ _ _ _ _ _ _ _ _ _ _ _ _ _ _ _ _ _ _ _ _ _ _ _ _ _ _ _ _ _ _ _ _ _ _ _ _ _ _ _ _ _ _ _ _ _ _ _ _ _ _ _ _ _ _ _ _ _ _ _ _ _ _ _ _ _ _ _ _ _ _ _ _ _ _ _ _ _ _ _ _ _ _ _ _ _ _ _ _ _ _ _ _ _ _ _ _ _ _ _ _ _ _ _ _ _ _ _ _ _ _ _ _ _ _ _ _ _ _ _ _ _ _ _ _ _ _ _ _ _ _ _ _ _ _ _ _ _ _ _ _ _ _ _ _ _ _ _ _ _ _ _ _ _ _ _ _ _ _ _ _ _ _ _ _ _ _ _ _ _ _ _ _ _ _ _ _ _ _ _ _ _ _ _ _ _ _ _ _ _ _ _ _ _ _ _ _ _ _ _ _ _ _ _ _ _ _ _ _ _ _ _ _ _ _ _ _ _ _ _ _ _ _ _ _ _ _ _ _ _ _ _ _ _ _ _ _ _ _ _ _ _ _ _ _ _ _ _ _ _ _ _ _ _ _ _ _ _ _ _ _ _ _ _ _ _ _ _ _ _ _ _ _ _ _ _ _ _ _ _ _ _ _ _ _ _ _ _ _ _ _
end Go.Proofs.YtpmpdonccgcehaaGreatDoor
end
section
namespace Go.Proofs.YtpmpdonccgcehaaGreatDoor.encodeExact
open Go.ChangeShapes Go.WideShapes Go.ChangeAt Go.RowKit Go.Joins
open Go.ChangeMaps (open_string shut_string)
set_option linter.unusedVariables false
theorem own : ownKnob Tryz.prog.godebug = none := by kernel_rfl
theorem zg8 : laidOutB Tryz.prog = true := by kernel_rfl
set_option maxRecDepth 100000 in
theorem lifted (os : Os) (started : os.Started) (H : Type) (enc : TypeId × Value → H) :
    ReturnsInHanded {} Tryz.checked os 3 .any (fun w args => (Rows.encodeExactSpec.pre enc Tryz.prog Tryz.f3 Rows.encodeExactRow.domain false w args ∧ laidMetH Tryz.prog Rows.encodeExactRow.laid w) ∧ sizedMet enc Tryz.prog Tryz.f3 (OpenSpec.ofChange Rows.encodeExactSpec) false w args) (Rows.encodeExactSpec.post enc Tryz.prog Tryz.f3 false true false false) := by
  refine handed_shaped (C := Tryz.checked) (X := fun w _ => laidMetH Tryz.prog Rows.encodeExactRow.laid w) (fun _ _ _ hh h => h.of_heap hh) own started (by kernel_rfl) Tryz.func3
    (ChangeSpec.witness_shaped (enc := enc) (C := Tryz.checked) (os := os) (X := fun w _ => laidMetH Tryz.prog Rows.encodeExactRow.laid w) false (World.laidAll Tryz.prog os Rows.encodeExactRow.laid) #[.slice none 0 0, .slice none 0 0, .agg #[.int .u64 0, .int .u64 0], .agg #[.int .i64 0, .int .i64 0, .slice none 0 0], .agg #[.int .i64 0, .int .i64 0, .slice none 0 0], .int .i64 0, .string .empty, .string .empty] 8 (World.laidAll_os _ _ _)
      (World.shaped_of_ZipB (by kernel_rfl) (by kernel_rfl)) (by kernel_rfl) (by kernel_rfl) (by kernel_rfl)
      (by rw [MakeChecks.laidMetH_plain _ _ _ (by kernel_rfl)]; exact laidMet_laidAll _ (by kernel_rfl) (by kernel_rfl))) ?_
  intro W base args ds gs before hval0 hW hLaid hsh
  have hval : ∀ (j : Nat) t v, Tryz.f3.params[j]? = some t → args[j]? = some v → Value.okWide Tryz.prog W .any base t v := hval0
  have hW' := hW
  obtain ⟨p, q, hA0, hV, rfl, hfz, hnd⟩ := hW
  have hA : DataW.TrodAll enc Tryz.prog W 0 (fun _ => true) true Tryz.f3.params.toList args.toList ds p := hA0
  rw [Tryz.params3] at hA hval
  obtain ⟨v0, vs0, d0, ds0, p0, q0, hargs, rfl, rfl, h0, r0⟩ := trodAll_cons hA
  obtain ⟨v1, vs1, d1, ds1, p1, q1, rfl, rfl, rfl, h1, r1⟩ := trodAll_cons r0
  obtain ⟨v2, vs2, d2, ds2, p2, q2, rfl, rfl, rfl, h2, r2⟩ := trodAll_cons r1
  obtain ⟨v3, vs3, d3, ds3, p3, q3, rfl, rfl, rfl, h3, r3⟩ := trodAll_cons r2
  obtain ⟨v4, vs4, d4, ds4, p4, q4, rfl, rfl, rfl, h4, r4⟩ := trodAll_cons r3
  obtain ⟨v5, vs5, d5, ds5, p5, q5, rfl, rfl, rfl, h5, r5⟩ := trodAll_cons r4
  obtain ⟨v6, vs6, d6, ds6, p6, q6, rfl, rfl, rfl, h6, r6⟩ := trodAll_cons r5
  obtain ⟨v7, vs7, d7, ds7, p7, q7, rfl, rfl, rfl, h7, r7⟩ := trodAll_cons r6
  obtain ⟨rfl, rfl, rfl⟩ := trodAll_nil r7
  obtain rfl : args = #[v0, v1, v2, v3, v4, v5, v6, v7] := by cases args; simp_all
  obtain ⟨rfl, rfl⟩ := trodVars_none hV
  obtain ⟨a0, len0, cap0, rfl⟩ := okWide_slice Tryz.underlying22 (hval 0 22 v0 rfl rfl)
  have k0 := h0
  have lt0 : ∀ x ∈ p0, x.block < W.heap.size := by obtain ⟨m, hm⟩ := k0; exact DataW.trod_lt m _ _ _ hm
  obtain ⟨z0, w0⟩ : ∃ zs, IsRow .i64 W a0 len0 cap0 zs := by
    obtain ⟨fuel, hf⟩ := h0
    rcases open_ints Tryz.underlying22 Tryz.underlying3 (by kernel_rfl) hf with ⟨hcs, _⟩ | ⟨x, l, c, zs, hcs, _, hl, hm, hz, _, hcell, hwz⟩
    · simp [Value.cells] at hcs
      obtain ⟨rfl, rfl, rfl⟩ := hcs
      exact ⟨[], .inl ⟨rfl, rfl, rfl, rfl⟩⟩
    · simp [Value.cells] at hcs
      obtain ⟨rfl, rfl, rfl⟩ := hcs
      exact ⟨zs, .inr ⟨_, rfl, hl, hm, by simpa using hz, hcell, hwz⟩⟩
  have k1 := h1
  have lt1 : ∀ x ∈ p1, x.block < W.heap.size := by obtain ⟨m, hm⟩ := k1; exact DataW.trod_lt m _ _ _ hm
  obtain ⟨Ps1, w1⟩ := open_pars (hval 1 23 v1 rfl rfl) h1
  have k2 := h2
  have lt2 : ∀ x ∈ p2, x.block < W.heap.size := by obtain ⟨m, hm⟩ := k2; exact DataW.trod_lt m _ _ _ hm
  obtain ⟨xa2, xb2, rfl⟩ := open_key2 (hval 2 26 v2 rfl rfl) h2
  have k3 := h3
  have lt3 : ∀ x ∈ p3, x.block < W.heap.size := by obtain ⟨m, hm⟩ := k3; exact DataW.trod_lt m _ _ _ hm
  obtain ⟨id3, ver3, sv3, vals3, rfl, w3⟩ := open_record (hval 3 29 v3 rfl rfl) h3
  have k4 := h4
  have lt4 : ∀ x ∈ p4, x.block < W.heap.size := by obtain ⟨m, hm⟩ := k4; exact DataW.trod_lt m _ _ _ hm
  obtain ⟨id4, ver4, sv4, Fs4, rfl, w4⟩ := open_enc (hval 4 32 v4 rfl rfl) h4
  have k5 := h5
  have lt5 : ∀ x ∈ p5, x.block < W.heap.size := by obtain ⟨m, hm⟩ := k5; exact DataW.trod_lt m _ _ _ hm
  obtain ⟨x5, rfl, hd5, hp5, w5⟩ := open_int Tryz.underlying3 (hval 5 3 v5 rfl rfl) h5
  have k6 := h6
  have lt6 : ∀ x ∈ p6, x.block < W.heap.size := by obtain ⟨m, hm⟩ := k6; exact DataW.trod_lt m _ _ _ hm
  obtain ⟨s6, rfl, hd6, hp6, w6⟩ := open_string Tryz.underlying9 (hval 6 9 v6 rfl rfl) h6
  have k7 := h7
  have lt7 : ∀ x ∈ p7, x.block < W.heap.size := by obtain ⟨m, hm⟩ := k7; exact DataW.trod_lt m _ _ _ hm
  obtain ⟨s7, rfl, hd7, hp7, w7⟩ := open_string Tryz.underlying9 (hval 7 9 v7 rfl rfl) h7
  clear hA0 hval0
  refine (eexact_walk a0 len0 cap0 z0 v1 Ps1 xa2 xb2 id3 ver3 sv3 vals3 id4 ver4 sv4 Fs4 x5 s6 s7 W w0 w1 w3 w4 w5 w6 w7 (vars_give (l := Rows.encodeExactRow.laid) hsh hLaid (by kernel_rfl) 2 (by kernel_rfl) 5 rfl 4 rfl)).mono fun e W' ⟨he, bel⟩ => ?_
  subst he
  exact ⟨_, rfl, _, _, _, [], _, [], hW', trodAll_mk1 (shut_bool Tryz.underlying4 _), (trodAll_cons_mk (Below.trod zg8 (by kernel_rfl) (of_decide_eq_true (by kernel_rfl)) k0 bel lt0) (trodAll_cons_mk (Below.trod zg8 (by kernel_rfl) (of_decide_eq_true (by kernel_rfl)) k1 bel lt1) (trodAll_cons_mk (Below.trod zg8 (by kernel_rfl) (of_decide_eq_true (by kernel_rfl)) k2 bel lt2) (trodAll_cons_mk (Below.trod zg8 (by kernel_rfl) (of_decide_eq_true (by kernel_rfl)) k3 bel lt3) (trodAll_cons_mk (Below.trod zg8 (by kernel_rfl) (of_decide_eq_true (by kernel_rfl)) k4 bel lt4) (trodAll_cons_mk (Below.trod zg8 (by kernel_rfl) (of_decide_eq_true (by kernel_rfl)) k5 bel lt5) (trodAll_cons_mk (Below.trod zg8 (by kernel_rfl) (of_decide_eq_true (by kernel_rfl)) k6 bel lt6) (trodAll_cons_mk (Below.trod zg8 (by kernel_rfl) (of_decide_eq_true (by kernel_rfl)) k7 bel lt7) trodAll_mk0)))))))), rfl, bel.frame _, fun h => by cases h⟩
set_option maxRecDepth 100000 in
set_option maxHeartbeats 100000000 in
theorem over : Rows.encodeExactRow.holds Tryz.pinned (OpenSpec.ofChange Rows.encodeExactSpec) :=
 OpenClaim.holds_of_wide 3 Tryz.f3 rfl rfl rfl rfl rfl rfl rfl ⟨rfl, rfl, rfl, rfl, rfl⟩ rfl rfl rfl rfl rfl (by as_aux_lemma => kernel_rfl) Tryz.func3 closed
  (of_decide_eq_true (by as_aux_lemma => kernel_rfl)) (by unfold Func.isWrapper; first | (rw [if_pos (by decide +kernel)]; kernel_rfl) | (rw [if_neg (by decide +kernel)]; exact ⟨rfl, rfl⟩))
  (fun os started H enc _ => lifted os started H enc)
set_option maxRecDepth 100000 in
set_option maxHeartbeats 100000000 in
/-- THE STATEMENT -/
theorem proved : Rows.EncodeExactCardSaid :=
  Claim7.holds_tied_plain_at .later [] [.data, .data, .data, .data, .sentinel, .sentinel, .pinned] true (true, "5e7e5404212adb8c421205e5a348fc49244de3b8e20d7d944cb53f8fe2199285") true
    over (fun _ h => by cases h) (by as_aux_lemma => kernel_rfl) (fun _ h => by cases h) encodeExact_row_tie rfl ⟨rfl, rfl⟩ (by as_aux_lemma => kernel_rfl) rfl
    (fun f fn hf hfn => by
      obtain rfl : f = 3 := Option.some.inj ((show Tryz.prog.funcNamed Rows.encodeExactRow.func = some 3 by kernel_rfl).symm.trans hf) |>.symm
      obtain rfl : fn = Tryz.f3 := (Option.some.inj (Tryz.func3.symm.trans hfn)).symm
      exact ⟨by kernel_rfl, fun j t ht => by
        rw [Tryz.params3] at ht
        have hm : t ∈ [22, 23, 26, 29, 32, 3, 9, 9] := by simpa using Array.mem_of_getElem? ht
        have hall : ([22, 23, 26, 29, 32, 3, 9, 9].all fun u => !Tryz.prog.wantsStandIn u) = true := by kernel_rfl
        exact (show Tryz.prog.wantsStandIn t = false by simpa using List.all_eq_true.1 hall t hm)⟩)
    (by as_aux_lemma => kernel_rfl)
#print axioms proved
end Go.Proofs.YtpmpdonccgcehaaGreatDoor.encodeExact
end
