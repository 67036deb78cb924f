/- Parts of one proof: ReadAny, RefRecA, Handed, VarsGive. -/
import Derived.Test.YthnfmolkppbbpaaGreatDoorPartRb9
import Derived.Handed
import Derived.HandedShaped
import Derived.MakeChecks
import Derived.LaidLaws
set_option linter.unusedSimpArgs false
set_option linter.unusedVariables false
namespace Go.Proofs.YthnfmolkppbbpaaGreatDoor
section
set_option maxRecDepth 100000
open Go.RowKit Go.Shelf Cal
attribute [local go_sem] Oper.semAt_some toList_mk mk_size str_append
def ReadPost (p : List RecL × Nat × Int) (w : World) (e : Ending) (w' : World) : Prop :=
  ∃ v, e = .returned (.tuple #[v, .int .i64 p.2.1, .int .i64 p.2.2]) ∧ RecsVec w' (fun b => w.heap.size ≤ b) v p.1 ∧ Below w.heap.size w w'
theorem rowsA_short : ∀ (t p : List UInt8) (x : List UInt8 × List UInt8), x ∈ rowsA p t → x.1.length ≤ p.length + t.length ∧ x.2.length ≤ t.length
  | [], p, x, h => by cases h
  | c :: t, p, x, h => by
    rw [rowsA] at h
    split at h
    · rcases List.mem_cons.1 h with rfl | h1
      · exact ⟨by simp, by simp⟩
      · have := rowsA_short t [] x h1
        simp at this ⊢; omega
    · have := rowsA_short t (p ++ [c]) x h
      simp at this ⊢; omega
theorem cell_grown {A C : World} {x i : Nat} {row : Option Nat} (hg : A.grownBy C row) (hl : x < A.heap.size) (hn : row ≠ some x) : C.cell? ⟨x, i, none⟩ = A.cell? ⟨x, i, none⟩ :=
  World.cell?_of_block (w := A) (a := ⟨x, i, none⟩) (hg.block x hl (fun e => hn e.symm))
theorem wpIn_world {F : Fence} {n : Nat} {P : Program} {c : Code} {Q : Exit → Act → World → Prop} {a : Act} {W : World} (h : ∀ w', w' = W → c.wpIn F n P Q a w') : c.wpIn F n P Q a W := h W rfl
theorem takeN_full {s : SchemaL} {l : List RecL} {row : List UInt8} (h : ¬ l.length < 64) : l.length ≤ 64 → (takeN s l row).2 ≠ 0 := by
  intro h2
  have h64 : l.length = 64 := by omega
  unfold takeN
  split
  · decide
  · split
    · split
      · split
        · first | decide | (rw [if_pos h64]; decide)
        · next hne => exact hne
      · decide
    · decide
theorem RdCells.below' {b k : Nat} {vf vt vn vs : Value} {t : List UInt8} {lv : Value} {at' : Nat} {W W' : World} (h : RdCells b k vf vt vn vs t lv at' W) (hb : Below W.heap.size W W') : RdCells b k vf vt vn vs t lv at' W' :=
  h.same fun x o _ hx _ => blk_below hb (lt_of_blk hx) hx
theorem keepsRow_below {x B : Nat} {W W' : World} (hb : Below W.heap.size W W') (hx : x < W.heap.size) (hg : Tryz.laysM145_ren.g 1 < B) (hB : B ≤ W.heap.size) : KeepsRow x W W' :=
  ⟨hb.block x hx, fun m hm => (hb.cell (p := ⟨_, 0, none⟩) (Nat.lt_of_lt_of_le hg hB)).trans hm⟩
theorem IRead.drew {w : World} {b k : Nat} {vf vt vn vs : Value} {s : SchemaL} {t : List UInt8} {j : Option Code} {p : List (List UInt8 × List UInt8)} {A : World} (h : IRead w b k vf vt vn vs s t j p A) : IRead w b k vf vt vn vs s t j p A.drew := by
  cases j with
  | none =>
    obtain ⟨lv, L, at', h1, h2, h3, h4, h5⟩ := h
    exact ⟨lv, L, at', h1.same fun x o _ hx _ => hx, h2.same (Nat.le_refl _) fun x o _ hx _ => hx, h3.drew, h4, h5⟩
  | some c =>
    obtain ⟨hc, lv, L, m, er, h1, h2, h3, h4, h5, h6⟩ := h
    exact ⟨hc, lv, L, m, er, h1, h2, h3, h4.same (Nat.le_refl _) fun x o _ hx _ => hx, h5.drew, h6⟩
set_option maxHeartbeats 16000000 in
theorem precread_any (S : Nat → Prop) (vf vt vn vs : Value) (s : SchemaL) (t : List UInt8) (w : World) (hvr : VarsAt w) (hdb : DbAt w) (h : SchemaAt w S vf vt vn vs s) (hc : checkS s = 0) (ht : t.length ≤ 50000) :
    Calls Tryz.prog 11 #[.agg #[vf, vt, vn, vs], strV t] w (ReadPost (freadN s t) w) := by
  have hrd : freadN s t = readA s t.length [] 0 (rowsL t) := by unfold freadN; rw [if_pos hc]
  obtain ⟨P, hP⟩ : ∃ P, readA s t.length [] 0 (rowsL t) = P := ⟨_, rfl⟩
  rw [hrd, hP]
  have HP := Lib.hid hP
  have HS := Lib.hid h; have HC := Lib.hid hc; have HVr := Lib.hid hvr; have HDb := Lib.hid hdb
  have hshort := fun x hx => rowsA_short t [] x hx
  have HSh := Lib.hid hshort
  clear h hc hvr hdb hrd hP hshort
  refine (callsIn_wide (n := 6)).1 ?_
  refine callsIn_of_wp_marks Tryz.func11 rfl trivial ?_ rfl
  simp only [Tryz.ntmps11, List.size_toArray, List.length_cons, List.length_nil, Nat.reduceAdd, Nat.reduceSub, Array.replicate_succ, Array.replicate_zero, List.push_toArray, List.append_toArray, List.nil_append, List.cons_append]
  gi_wp2
  refine ⟨trivial, callsIn_world fun W hW => ?_⟩
  have hb0 : Below w.heap.size w W := by rw [hW]; exact (((((Below.refl w.heap.size w).alloc (Nat.le_refl _) _).alloc (by simp) _).alloc (by simp; omega) _).alloc (by simp; omega) _).alloc (by simp; omega) _
  have h0 : W.heap[w.heap.size]? = some (.cells #[vf, vt, vn, vs] 33 (0, 0)) := by rw [hW]; exact blk_old (blk_old (blk_old (blk_old (blk_new rfl))))
  have h1 : W.heap[w.heap.size + 1]? = some (.cells #[strV t] 9 (0, 0)) := by rw [hW]; exact blk_old (blk_old (blk_old (blk_new (by simp))))
  have h2 : W.heap[w.heap.size + 1 + 1]? = some (.cells #[.slice none 0 0] 35 (0, 0)) := by rw [hW]; exact blk_old (blk_old (blk_new (by simp)))
  have h3 : W.heap[w.heap.size + 1 + 1 + 1]? = some (.cells #[.int .i64 0] 3 (0, 0)) := by rw [hW]; exact blk_old (blk_new (by simp))
  have h4 : W.heap[w.heap.size + 1 + 1 + 1 + 1]? = some (.cells #[.int .i64 0] 37 (0, 0)) := by rw [hW]; exact blk_new (by simp)
  clear hW
  refine (callsIn_wide.2 (scheck_any S vf vt vn vs s W (HS.out.below hb0))).mono ?_
  rw [HC.out]
  rintro e w1 ⟨rfl, hb⟩
  have h0' := blk_below hb (lt_of_blk h0) h0; have h1' := blk_below hb (lt_of_blk h1) h1; have h2' := blk_below hb (lt_of_blk h2) h2; have h3' := blk_below hb (lt_of_blk h3) h3; have h4' := blk_below hb (lt_of_blk h4) h4
  have HB1 := Lib.hid (hb0.trans (hb.mono hb0.size))
  have HM1 := Lib.hid (HVr.out.m.old HB1.out)
  have hd : RdAt0 w.heap.size vf vt vn vs t w1 := ⟨h0', h1', h2', h3', h4'⟩
  have HD := Lib.hid hd
  have c1 : ((w1.alloc (.cells #[.slice none 0 0] 35)).alloc (.cells #[.int .i64 0] 3)).cell? ⟨w.heap.size + 1, 0, none⟩ = some (strV t) := cell1R (blk_old (blk_old h1'))
  have dz : ((0 : Int) != 0) = false := rfl
  clear hb hb0 h0 h1 h2 h3 h4 h0' h1' h2' h3' h4' hd
  gi_wp2
  refine ⟨trivial, callsIn_world fun W2 hW2 => ?_⟩
  have hb2 : Below w1.heap.size w1 W2 := by rw [hW2]; exact ((Below.refl w1.heap.size w1).alloc (Nat.le_refl _) _).alloc (by simp) _
  have hl2 : W2.heap[w1.heap.size]? = some (.cells #[.slice none 0 0] 35 (0, 0)) := by rw [hW2]; exact blk_old (blk_new rfl)
  have hn2 : W2.heap[w1.heap.size + 1]? = some (.cells #[.int .i64 0] 3 (0, 0)) := by rw [hW2]; exact blk_new (by simp)
  have z2 : W2.heap.size = w1.heap.size + 2 := by rw [hW2]; simp
  clear hW2 c1
  refine (callsIn_wide.2 (rows_any t W2)).mono ?_
  rintro e w3 ⟨rfl, hw3⟩
  have hb3 : Below w1.heap.size w1 w3 := by rw [hw3]; exact hb2.alloc hb2.size _
  have hd3 : RdCells w.heap.size w1.heap.size vf vt vn vs t (.slice none 0 0) 0 w3 := by
    have h1 := (HD.out.below hb2)
    rw [hw3]
    exact ⟨blk_old h1.s, blk_old h1.t, blk_old h1.r1, blk_old h1.r2, blk_old h1.r3, blk_old hl2, blk_old hn2⟩
  have hx3 : w3.heap[w1.heap.size + 2]? = some (.cells #[strV t] 9 (0, 0)) := by rw [hw3]; exact blk_new z2.symm
  have HB3 := Lib.hid (HB1.out.trans (hb3.mono HB1.out.size)); have HM3 := Lib.hid (HM1.out.old hb3); have HD3 := Lib.hid hd3; have HX3 := Lib.hid hx3
  rw [z2]
  have zk : w.heap.size + 1 + 1 + 1 + 1 < w1.heap.size := lt_of_blk HD.out.r3
  clear hb2 hl2 hn2 hb3 hd3 hx3 hw3 z2
  gi_wp2
  refine wpIn_range_box rfl (by omega) (gf := 76) (lb := #[.pointer (some ⟨w1.heap.size + 2, 0, none⟩)]) rfl trivial (enters_of Tryz.func76 (by kernel_rfl) rfl)
    (rows1_box 5 (by decide) (w1.heap.size + 2) t w3 (by omega) HM3.out HX3.out (by have := HM1.out.lt; omega)) (lt_of_blk HX3.out)
    KeepsRow.trans (KeepsRow.put (lt_of_blk HX3.out) HM3.out.lt) (fun _ => rfl)
    (IRead w w.heap.size w1.heap.size vf vt vn vs s t) (IRead.own (Nat.le_trans HB3.out.size (Nat.le_refl _))) (IRead.box (by omega) (by omega)) ⟨_, [], 0, HD3.out, RecsIn.nil _ _, HB3.out, lt_of_blk HX3.out, by simp, by omega, fun q hq => by rw [hq]; rfl⟩
    (fun x => { tmps := #[.agg #[vf, vt, vn, vs], strV t, .pointer (some ⟨w.heap.size, 0, none⟩), .pointer (some ⟨w.heap.size + 1, 0, none⟩), .pointer (some ⟨w.heap.size + 1 + 1, 0, none⟩), .pointer (some ⟨w.heap.size + 1 + 1 + 1, 0, none⟩), .pointer (some ⟨w.heap.size + 1 + 1 + 1 + 1, 0, none⟩), .int .i64 0, .pointer (some ⟨w1.heap.size, 0, none⟩), .pointer (some ⟨w1.heap.size + 1, 0, none⟩), strV x.1, strV x.2, undef, undef, .agg #[vf, vt, vn, vs], .int .i64 0, .int .i64 0, .bool false, undef, strV t, .func (.func 76) #[] #[.pointer (some ⟨w1.heap.size + 2, 0, none⟩)], strV x.1, strV x.2, undef, undef, undef, undef, undef, undef, undef, undef, undef, undef, undef, undef, undef, undef, undef, undef, undef, undef, undef, undef, undef, undef, undef, undef, undef, undef, undef, undef, undef, undef, undef, undef, undef, undef, undef, undef, undef, undef, undef, undef], defers := [] }) ?assign ?body ?done ?stop
  case assign =>
    intro l x W K hK
    dsimp only [encsR]
    gi_wp2
    exact hK
  case body =>
    rintro l pre ⟨row, rest⟩ W ⟨lv, C, at', h1, h2, h3, h4, h5, h6, h7⟩ hpre
    obtain ⟨al, cl_, rfl⟩ := own_slice h2.own
    obtain ⟨q, hq⟩ := hpre
    have hq' : rowsL t = pre ++ (row, rest) :: q := by rw [← hq]; simp
    have heq := h7 ((row, rest) :: q) hq'
    have hmem : (row, rest) ∈ rowsL t := by rw [hq']; simp
    have hsh := HSh.out _ hmem
    have hrow : row.length ≤ t.length := by simpa using hsh.1
    have hrest : rest.length ≤ t.length := by simpa using hsh.2
    have HEq := Lib.hid heq; have HQ := Lib.hid hq'; have H1 := Lib.hid h1; have H2 := Lib.hid h2; have H3 := Lib.hid h3
    have mixed : Tryz.prog.follows .mixedOrders = true := by kernel_rfl
    have n1 : w.heap.size + 1 + 1 ≠ w.heap.size + 1 + 1 + 1 := by omega
    have n2 : w.heap.size + 1 + 1 ≠ w.heap.size + 1 + 1 + 1 + 1 := by omega
    have n3 : w.heap.size + 1 + 1 + 1 ≠ w.heap.size + 1 + 1 + 1 + 1 := by omega
    clear h1 h2 h3 h7 hq hq' heq hmem hsh
    dsimp only
    gi_wp2
    refine ⟨trivial, (CallsIn.inRound l (callsIn_wide.2 (prefix_any row [101, 110, 100, 32] W (by omega) (by decide)))).mono ?_⟩
    rintro e W2 ⟨rfl, hb⟩
    have HK2 := Lib.hid (keeps_below hb)
    have H1b := Lib.hid (H1.out.below' hb); have H2b := Lib.hid (H2.out.below hb); have H3b := Lib.hid (H3.out.trans (hb.mono H3.out.size))
    have h4b : w1.heap.size + 2 < W2.heap.size := Nat.lt_of_lt_of_le h4 hb.size
    have HKx := Lib.hid (keepsRow_below (x := w1.heap.size + 2) hb h4 HM1.out.lt (by have := HM1.out.lt; omega))
    clear hb H1 H2 H3 h4
    obtain ⟨E, hE⟩ : ∃ E, prefB row [101, 110, 100, 32] = E := ⟨_, rfl⟩
    have hEe : isEnd row = E := hE
    rw [hE]
    have cl := cell1R H1b.out.l
    cases E
    · have heq := HEq.out
      rw [readA, hEe, if_neg (by simp)] at heq
      have HEq2 := Lib.hid heq
      obtain ⟨s0, s1, s2, s3⟩ := cellsS H1b.out.s
      clear HEq heq hE hEe
      gi_wp2
      have htk := rtake_any S (fun b => w.heap.size ≤ b) vf vt vn vs (.slice al C.length cl_) s (C.map pR) row W2 (HS.out.below H3b.out) HC.out (H2b.out.vec (by omega)) (by simp; omega) (HVr.out.old H3b.out) (HDb.out.old H3b.out) (by omega)
      unfold RecParsed at htk
      obtain ⟨⟨r1, er⟩, hp⟩ : ∃ p, takeN s (C.map pR) row = p := ⟨_, rfl⟩
      have hlim : C.length < 64 ∨ er ≠ 0 := by
        by_cases h64 : C.length < 64
        · exact .inl h64
        · refine .inr fun he => ?_
          have := takeN_full (s := s) (l := C.map pR) (row := row) (by rw [List.length_map]; omega) (by rw [List.length_map]; omega)
          rw [hp] at this
          exact this he
      have heq := HEq2.out
      rw [hp] at htk heq
      dsimp only at htk heq
      have HEq3 := Lib.hid heq
      clear HEq2 heq hp
      refine ⟨trivial, (CallsIn.inRound l (callsIn_wide.2 htk)).mono ?_⟩
      rintro e W3 ⟨_, rfl, ⟨sv, rfl, hv⟩, hb⟩
      obtain ⟨av, cv, rfl⟩ := hv.slice
      have HK3 := Lib.hid (HK2.out.trans (keeps_below hb))
      have H1 := Lib.hid (H1b.out.below' hb); have H2 := Lib.hid (H2b.out.below hb); have H3 := Lib.hid (H3b.out.trans (hb.mono H3b.out.size))
      have HKy := Lib.hid (HKx.out.trans (keepsRow_below (x := w1.heap.size + 2) hb h4b HM1.out.lt (by have := HM1.out.lt; omega)))
      have HVv := Lib.hid hv
      have z23 := hb.size
      have HOff := Lib.hid (show ∀ g, (Value.slice al C.length cl_).ownBlock = some g → w1.heap.size + 2 < g ∧ g < W2.heap.size from fun g e => by
        rcases H2b.out.own.2 with ⟨h0, _⟩ | ⟨g', cap, cur, hv, hg, hh, _⟩
        · rw [h0] at e; simp [Value.ownBlock] at e
        · rw [hv] at e
          have : g' = g := by simpa [Value.ownBlock] using e
          subst this
          exact ⟨by omega, lt_of_blk hh⟩)
      clear hb htk H1b H2b H3b HK2 HKx s0 s1 s2 s3 cl hv
      by_cases he : er = 0
      · subst he
        have hC : C.length < 64 := by rcases hlim with h | h; exact h; exact absurd rfl h
        have hres := HEq3.out
        rw [if_pos rfl] at hres
        have HRes := Lib.hid hres
        have dz : ((0 : Int) != 0) = false := rfl
        clear hres HEq3 hlim
        gi_wp2
        refine wpIn_world (fun V hV => ?_)
        have hbA : Below W3.heap.size W3 V := by rw [hV]; exact (Below.refl _ _).alloc (Nat.le_refl _) _
        have hx : V.heap[W3.heap.size]? = some (.cells #[.int .i64 r1.id, .int .i64 r1.ver, .slice av r1.vals.length cv] 44 (0, 0)) := by rw [hV]; exact blk_new rfl
        have H1a := Lib.hid (H1.out.below' hbA); have H2a := Lib.hid (H2.out.below hbA); have H3a := Lib.hid (H3.out.trans (hbA.mono H3.out.size))
        have HK4 := Lib.hid (HK3.out.trans (keeps_below hbA))
        have z3k : w1.heap.size + 2 < W3.heap.size := by omega
        have HKz := Lib.hid (HKy.out.trans (keepsRow_below (x := w1.heap.size + 2) hbA z3k HM1.out.lt (by have := HM1.out.lt; omega)))
        have HVx := Lib.hid (HVv.out.below hbA)
        have cl := cell1R H1a.out.l; have ct := cell1R H1a.out.t
        obtain ⟨x0, x1, x2⟩ := cells3 hx
        have lk := lt_of_blk H1a.out.l; have lx := lt_of_blk hx; have lt' := lt_of_blk H1a.out.t
        have hsub : IntKind.i64.wrap ((t.length : Int) - (rest.length : Int)) = ((t.length - rest.length : Nat) : Int) := by rw [IntKind.wrap_i64]; omega
        obtain ⟨m, hm⟩ : ∃ m, t.length - rest.length = m := ⟨_, rfl⟩
        rw [hm] at hsub
        have hmt : m ≤ t.length := by omega
        have HRs := Lib.hid (show readA s t.length [] 0 (rowsL t) = readA s t.length (C.map pR ++ [r1]) m q by rw [← hm]; exact HRes.out)
        clear hbA hV H1 H2 H3 HK3 HKy HVv hx
        have bD : Below V.heap.size V V.drew := (Below.refl _ _).drew
        have clD : V.drew.cell? ⟨w1.heap.size, 0, none⟩ = some (.slice al C.length cl_) := cl
        have bB := bD.alloc bD.size (.cells #[.int .i64 r1.id, .int .i64 r1.ver, .slice av r1.vals.length cv] 44)
        have clB := (bB.cell (p := ⟨w1.heap.size, 0, none⟩) lk).trans cl
        refine wpIn_region_k (by kernel_rfl) (by kernel_rfl) (fun w' => w'.cell? ⟨W3.heap.size, 0, none⟩ = some (.int .i64 r1.id) ∧ w'.cell? ⟨W3.heap.size, 1, none⟩ = some (.int .i64 r1.ver) ∧ w'.cell? ⟨W3.heap.size, 2, none⟩ = some (.slice av r1.vals.length cv) ∧ w'.cell? ⟨w.heap.size + 1, 0, none⟩ = some (strV t)) 10 (⟨x0, x1, x2, ct⟩) (fun hHeld => ?_)
        refine tK 1 (h := ?_)
        try simp only [List.getElem_toArray, List.getElem_cons_zero, List.getElem_cons_succ, Act.put, List.setIfInBounds_toArray, List.set_cons_zero, List.set_cons_succ]
        refine tK 4 (h := ?_)
        try simp only [List.getElem_toArray, List.getElem_cons_zero, List.getElem_cons_succ, Act.put, List.setIfInBounds_toArray, List.set_cons_zero, List.set_cons_succ]
        refine tK 5 (h := ?_)
        try simp only [List.getElem_toArray, List.getElem_cons_zero, List.getElem_cons_succ, Act.put, List.setIfInBounds_toArray, List.set_cons_zero, List.set_cons_succ]
        refine tK 6 (h := ?_)
        try simp only [List.getElem_toArray, List.getElem_cons_zero, List.getElem_cons_succ, Act.put, List.setIfInBounds_toArray, List.set_cons_zero, List.set_cons_succ]
        refine tK 7 (h := ?_)
        try simp only [List.getElem_toArray, List.getElem_cons_zero, List.getElem_cons_succ, Act.put, List.setIfInBounds_toArray, List.set_cons_zero, List.set_cons_succ]
        refine tK 8 (h := ?_)
        try simp only [List.getElem_toArray, List.getElem_cons_zero, List.getElem_cons_succ, Act.put, List.setIfInBounds_toArray, List.set_cons_zero, List.set_cons_succ]
        refine wpAnyK_ready (rs := [0, 2]) (by kernel_rfl) (by simp) ?_
        refine AllReadyK.cons rfl (fun K hK => ?_) (AllReadyK.cons rfl (fun K hK => ?_) AllReadyK.nil)
        focus
          go_simp
          refine shutK hK (⟨(bD.cell (p := ⟨W3.heap.size, 0, none⟩) lx).trans x0, (bD.cell (p := ⟨W3.heap.size, 1, none⟩) lx).trans x1, (bD.cell (p := ⟨W3.heap.size, 2, none⟩) lx).trans x2, (bD.cell (p := ⟨w.heap.size + 1, 0, none⟩) lt').trans ct⟩) (fun hHeld => ?_)
          clear hK K
          try simp only [List.getElem_toArray, List.getElem_cons_zero, List.getElem_cons_succ, Act.put, List.setIfInBounds_toArray, List.set_cons_zero, List.set_cons_succ]
          refine wpAnyK_ready (rs := [2]) (by kernel_rfl) (by simp) ?_
          refine AllReadyK.cons rfl (fun K hK => ?_) AllReadyK.nil
          go_simp
          skip
          refine shutK hK (⟨(bB.cell (p := ⟨W3.heap.size, 0, none⟩) lx).trans x0, (bB.cell (p := ⟨W3.heap.size, 1, none⟩) lx).trans x1, (bB.cell (p := ⟨W3.heap.size, 2, none⟩) lx).trans x2, (bB.cell (p := ⟨w.heap.size + 1, 0, none⟩) lt').trans ct⟩) (fun hHeld => ?_)
          clear hK K
          try simp only [List.getElem_toArray, List.getElem_cons_zero, List.getElem_cons_succ, Act.put, List.setIfInBounds_toArray, List.set_cons_zero, List.set_cons_succ]
        rotate_left 1
        focus
          go_simp
          refine shutK hK (⟨(bB.cell (p := ⟨W3.heap.size, 0, none⟩) lx).trans x0, (bB.cell (p := ⟨W3.heap.size, 1, none⟩) lx).trans x1, (bB.cell (p := ⟨W3.heap.size, 2, none⟩) lx).trans x2, (bB.cell (p := ⟨w.heap.size + 1, 0, none⟩) lt').trans ct⟩) (fun hHeld => ?_)
          clear hK K
          try simp only [List.getElem_toArray, List.getElem_cons_zero, List.getElem_cons_succ, Act.put, List.setIfInBounds_toArray, List.set_cons_zero, List.set_cons_succ]
          refine wpAnyK_ready (rs := [0]) (by kernel_rfl) (by simp) ?_
          refine AllReadyK.cons rfl (fun K hK => ?_) AllReadyK.nil
          go_simp
          skip
          refine shutK hK (⟨(bB.cell (p := ⟨W3.heap.size, 0, none⟩) lx).trans x0, (bB.cell (p := ⟨W3.heap.size, 1, none⟩) lx).trans x1, (bB.cell (p := ⟨W3.heap.size, 2, none⟩) lx).trans x2, (bB.cell (p := ⟨w.heap.size + 1, 0, none⟩) lt').trans ct⟩) (fun hHeld => ?_)
          clear hK K
          try simp only [List.getElem_toArray, List.getElem_cons_zero, List.getElem_cons_succ, Act.put, List.setIfInBounds_toArray, List.set_cons_zero, List.set_cons_succ]
        all_goals
          have HOw := Lib.hid ((H2a.out.below bB).own)
          have HRd := Lib.hid (show Reads (V.drew.alloc (.cells #[.int .i64 r1.id, .int .i64 r1.ver, .slice av r1.vals.length cv] 44)) 3 (.slice (some ⟨V.heap.size, 0, none⟩) 1 1) 1 ([(⟨r1.id, r1.ver, av, r1.vals.length, cv, r1.vals⟩ : RV)].flatMap encRV) from reads_block (size := 3) (xs := [(⟨r1.id, r1.ver, av, r1.vals.length, cv, r1.vals⟩ : RV)].flatMap encRV) (t := 44) (fr := (0, 0)) (blk_new rfl) rfl)
          refine wpAnyK_ready (rs := [3]) (by kernel_rfl) (by simp) ?_
          refine AllReadyK.cons rfl (fun K hK => ?_) AllReadyK.nil
          refine wp_append_reads (.tmp 52) (.tmp 54) 35 (by rfl) (w1.heap.size + 2 + 1) 44 (.agg #[.int .i64 0, .int .i64 0, .slice none 0 0]) 3 40 Tryz.underlying35 infoR rfl (by decide) (.slice al C.length cl_) C.length (C.flatMap encRV) (by rfl) HOw.out _ 1 _ (by rfl) HRd.out (fun u hu => one_encRV (⟨r1.id, r1.ver, av, r1.vals.length, cv, r1.vals⟩ : RV) u (by simpa using hu)) (by unfold maxLen; omega) (by omega) (by simp; omega) ?_; intro v' w' ho' hg hat; have HG := Lib.hid hg; have HO2 := Lib.hid ho'; have HAt := Lib.hid hat
          refine shutK hK (⟨(cell_grown (x := W3.heap.size) (i := 0) hg (by have := bB.size; simp; omega) (fun e => (by have h1 := HOff.out _ e; omega))).trans ((bB.cell (p := ⟨W3.heap.size, 0, none⟩) lx).trans x0), (cell_grown (x := W3.heap.size) (i := 1) hg (by have := bB.size; simp; omega) (fun e => (by have h1 := HOff.out _ e; omega))).trans ((bB.cell (p := ⟨W3.heap.size, 1, none⟩) lx).trans x1), (cell_grown (x := W3.heap.size) (i := 2) hg (by have := bB.size; simp; omega) (fun e => (by have h1 := HOff.out _ e; omega))).trans ((bB.cell (p := ⟨W3.heap.size, 2, none⟩) lx).trans x2), (cell_grown (x := w.heap.size + 1) (i := 0) hg (by have := bB.size; simp; omega) (fun e => (by have h1 := HOff.out _ e; omega))).trans ((bB.cell (p := ⟨w.heap.size + 1, 0, none⟩) lt').trans ct)⟩) (fun hHeld => ?_)
          clear hK K
          try simp only [List.getElem_toArray, List.getElem_cons_zero, List.getElem_cons_succ, Act.put, List.setIfInBounds_toArray, List.set_cons_zero, List.set_cons_succ]
          obtain ⟨a2, c2, rfl⟩ := own_slice ho'
          have zV2 : (V.drew.alloc (.cells #[.int .i64 r1.id, .int .i64 r1.ver, .slice av r1.vals.length cv] 44)).heap.size = V.heap.size + 1 := World.size_alloc V.drew _
          have zV3 : (V.alloc (.cells #[.int .i64 r1.id, .int .i64 r1.ver, .slice av r1.vals.length cv] 44)).drew.heap.size = V.heap.size + 1 := World.size_alloc V _
          have grow : ∀ x o, x < V.heap.size → (∀ g, (Value.slice al C.length cl_).ownBlock = some g → g ≠ x) → V.heap[x]? = some o → w'.heap[x]? = some o := fun x o hx hn ho => (hg.block x (by omega) (fun e => hn x e.symm rfl)).trans (blk_old (w := V.drew) ho)
          have gk : ∀ x, x ≤ w1.heap.size + 2 → ∀ g, (Value.slice al C.length cl_).ownBlock = some g → g ≠ x := fun x hx g e => by have := HOff.out g e; omega
          have Q1 : RdCells w.heap.size w1.heap.size vf vt vn vs t (.slice al C.length cl_) at' w' := H1a.out.same fun x o hx ho _ => grow x o (lt_of_blk ho) (gk x (by omega)) ho
          have ck := cell1R Q1.l; have cn := cell1R Q1.n
          have fk := frozen_of_row _ _ 0 _ _ Q1.l; have fn := frozen_of_row _ _ 0 _ _ Q1.n
          have HQ1 := Lib.hid Q1; have HGr := Lib.hid grow
          clear Q1 ho' hg hat grow gk
          refine wpAnyK_ready (rs := [9]) (by kernel_rfl) (by simp) ?_
          refine AllReadyK.cons rfl (fun K hK => ?_) AllReadyK.nil
          go_simp
          refine shutK hK (⟨(cell_far (by show W3.heap.size ≠ w1.heap.size; omega)).trans hHeld.1, (cell_far (by show W3.heap.size ≠ w1.heap.size; omega)).trans hHeld.2.1, (cell_far (by show W3.heap.size ≠ w1.heap.size; omega)).trans hHeld.2.2.1, (cell_far (by show w.heap.size + 1 ≠ w1.heap.size; omega)).trans hHeld.2.2.2⟩) (fun hHeld => ?_)
          clear hK K
          try simp only [List.getElem_toArray, List.getElem_cons_zero, List.getElem_cons_succ, Act.put, List.setIfInBounds_toArray, List.set_cons_zero, List.set_cons_succ]
          refine wpAnyK_ready (rs := [10]) (by kernel_rfl) (by simp) ?_
          refine AllReadyK.cons rfl (fun K hK => ?_) AllReadyK.nil
          go_simp
          refine shutK_off hK (by decide) ?_
          clear hK K
          try simp only [List.getElem_toArray, List.getElem_cons_zero, List.getElem_cons_succ, Act.put, List.setIfInBounds_toArray, List.set_cons_zero, List.set_cons_succ]
          refine wpAnyK_done (by kernel_rfl) ?_ _
          dsimp only [OnlyN]
          gi_wp2
          have hw2 := HG.out.size
          have hcellsG : ∀ (j : Nat) (o : Obj), (Value.slice al C.length cl_).ownBlock = some j → (V.drew.alloc (.cells #[.int .i64 r1.id, .int .i64 r1.ver, .slice av r1.vals.length cv] 44)).heap[j]? = some o → o.isCells = true := fun j o e ho => by
            rcases HOw.out.2 with ⟨h0, _⟩ | ⟨g', cap, cur, hv, hg', hh, _⟩
            · rw [h0] at e; simp [Value.ownBlock] at e
            · rw [hv] at e
              have : g' = j := by simpa [Value.ownBlock] using e
              subst this
              rw [hh] at ho; cases ho; rfl
          have KO : KeepsOthers W ((w'.setCell ⟨w1.heap.size, 0, none⟩ (.slice a2 (C.length + 1) c2)).setCell ⟨w1.heap.size + 1, 0, none⟩ (.int .i64 m)) :=
            ((((HK4.out.trans (KeepsOthers.drew V)).trans (KeepsOthers.alloc V.drew _)).trans (KeepsOthers.of_grownBy HG.out hcellsG)).trans (KeepsOthers.setCell _ _ _)).trans (KeepsOthers.setCell _ _ _)
          have hk2 : w1.heap.size + 2 < V.heap.size := by omega
          have KR : KeepsRow (w1.heap.size + 2) W ((w'.setCell ⟨w1.heap.size, 0, none⟩ (.slice a2 (C.length + 1) c2)).setCell ⟨w1.heap.size + 1, 0, none⟩ (.int .i64 m)) := by
            refine KeepsRow.trans HKz.out ⟨?_, fun mm hm => ?_⟩
            · obtain ⟨o, ho⟩ : ∃ o, V.heap[w1.heap.size + 2]? = some o := ⟨_, Array.getElem?_eq_getElem hk2⟩
              rw [ho]
              exact blk_far (blk_far (HGr.out _ _ hk2 (fun g e => by have := HOff.out g e; omega) ho) (by show w1.heap.size + 2 ≠ w1.heap.size; omega)) (by show w1.heap.size + 2 ≠ w1.heap.size + 1; omega)
            · have hgl := HM1.out.lt
              obtain ⟨o, ho⟩ : ∃ o, V.heap[Tryz.laysM145_ren.g 1]? = some o := ⟨_, Array.getElem?_eq_getElem (by omega)⟩
              have h9 := blk_far (a := ⟨w1.heap.size + 1, 0, none⟩) (v := .int .i64 m) (blk_far (a := ⟨w1.heap.size, 0, none⟩) (v := .slice a2 (C.length + 1) c2) (HGr.out _ _ (by omega) (fun g e => by have := HOff.out g e; omega) ho) (by show _ ≠ w1.heap.size; omega)) (by show _ ≠ w1.heap.size + 1; omega)
              exact (World.cell?_of_block (w := V) (a := ⟨Tryz.laysM145_ren.g 1, 0, none⟩) (h9.trans ho.symm)).trans hm
          have hbw : Below w.heap.size w w' := ((H3a.out.trans (bB.mono H3a.out.size)).grown HG.out (by have := H3a.out.size; omega) (fun g e => by have := HOff.out g e; omega))
          have hrecs : RecsIn (w1.heap.size + 2) (.slice a2 (C.length + 1) c2) (C ++ [(⟨r1.id, r1.ver, av, r1.vals.length, cv, r1.vals⟩ : RV)]) w' := by
            have hown' : ∀ b, b < V.heap.size → (some b ≠ (Value.slice al C.length cl_).ownBlock) → some b ≠ (Value.slice a2 (C.length + 1) c2).ownBlock := fun b hb hn => by
              rcases HAt.out with h | h | h
              · rw [h]; simp
              · rw [← h]; exact hn
              · rw [h]; simp; omega
            refine ⟨by rw [List.length_append, List.flatMap_append]; exact HO2.out, fun x hx => ?_⟩
            rcases List.mem_append.1 hx with hx | hx
            · exact (H2a.out.vals x hx).move (by omega) fun b hb hs => ⟨by
                obtain ⟨o, ho⟩ : ∃ o, V.heap[b]? = some o := ⟨_, Array.getElem?_eq_getElem hb⟩
                rw [ho]; exact HGr.out b o hb (fun g e eg => hs.2 (by rw [← eg, e])) ho, hs.1, hown' b hb hs.2⟩
            · simp at hx; subst hx
              exact HVx.out.move (by omega) fun b hb hs => by
                have hs' : W2.heap.size ≤ b := hs
                have hne : some b ≠ (Value.slice al C.length cl_).ownBlock := fun e => by have := HOff.out b e.symm; omega
                obtain ⟨o, ho⟩ : ∃ o, V.heap[b]? = some o := ⟨_, Array.getElem?_eq_getElem hb⟩
                exact ⟨by rw [ho]; exact HGr.out b o hb (fun g e eg => hne (by rw [← eg, e])) ho, by omega, hown' b hb hne⟩
          refine ⟨none, rfl, KO, fun _ => KR, .slice a2 (C.length + 1) c2, C ++ [(⟨r1.id, r1.ver, av, r1.vals.length, cv, r1.vals⟩ : RV)], m, ?_, ?_, ?_, ?_, by simp; omega, hmt, ?_⟩
          · exact ⟨blk_far (blk_far HQ1.out.s (by show w.heap.size ≠ w1.heap.size; omega)) (by show w.heap.size ≠ w1.heap.size + 1; omega), blk_far (blk_far HQ1.out.t (by show w.heap.size + 1 ≠ w1.heap.size; omega)) (by show w.heap.size + 1 ≠ w1.heap.size + 1; omega), blk_far (blk_far HQ1.out.r1 (by show w.heap.size + 1 + 1 ≠ w1.heap.size; omega)) (by show w.heap.size + 1 + 1 ≠ w1.heap.size + 1; omega), blk_far (blk_far HQ1.out.r2 (by show w.heap.size + 1 + 1 + 1 ≠ w1.heap.size; omega)) (by show w.heap.size + 1 + 1 + 1 ≠ w1.heap.size + 1; omega), blk_far (blk_far HQ1.out.r3 (by show w.heap.size + 1 + 1 + 1 + 1 ≠ w1.heap.size; omega)) (by show w.heap.size + 1 + 1 + 1 + 1 ≠ w1.heap.size + 1; omega),
              blk_far (blk_set (i := 0) (v := .slice a2 (C.length + 1) c2) HQ1.out.l) (by show w1.heap.size ≠ w1.heap.size + 1; omega), blk_set (i := 0) (v := .int .i64 m) (blk_far HQ1.out.n (by show w1.heap.size + 1 ≠ w1.heap.size; omega))⟩
          · exact (hrecs.far (a := ⟨w1.heap.size, 0, none⟩) (by show w1.heap.size ≤ w1.heap.size + 2; omega)).far (a := ⟨w1.heap.size + 1, 0, none⟩) (by show w1.heap.size + 1 ≤ w1.heap.size + 2; omega)
          · exact (hbw.setCell (p := ⟨w1.heap.size, 0, none⟩) (by show w.heap.size ≤ w1.heap.size; omega) _).setCell (p := ⟨w1.heap.size + 1, 0, none⟩) (by show w.heap.size ≤ w1.heap.size + 1; omega) _
          · simp [World.setCell]; omega
          · intro q' hq'
            have hqq : q' = q := by
              have h9 := HQ.out
              rw [hq', List.append_assoc] at h9
              simpa using List.append_cancel_left h9
            rw [hqq, List.map_append]
            exact HRs.out
      · have dne : (er != 0) = true := by simpa using he
        have hres := HEq3.out
        rw [if_neg he] at hres
        have cl3 := cell1R H1.out.l; have cn3 := cell1R H1.out.n; have cr1 := cell1R H1.out.r1; have cr2 := cell1R H1.out.r2; have cr3 := cell1R H1.out.r3
        have hbA : Below W3.heap.size W3 (W3.alloc (.cells #[.int .i64 r1.id, .int .i64 r1.ver, .slice av r1.vals.length cv] 44)) := (Below.refl _ _).alloc (Nat.le_refl _) _
        have H1a := Lib.hid (H1.out.below' hbA); have H2a := Lib.hid (H2.out.below hbA); have H3a := Lib.hid (H3.out.trans (hbA.mono H3.out.size))
        have HK4 := Lib.hid (HK3.out.trans (keeps_below hbA))
        clear hbA HEq3 he hlim
        obtain ⟨g1, g2, g3, g4, g5⟩ := read_out H1a.out H2a.out H3a.out (Nat.le_refl _) zk (at' : Int) er
        have hI : IRead w w.heap.size w1.heap.size vf vt vn vs s t (some .ret) (pre ++ [(row, rest)]) _ := ⟨rfl, _, C, _, _, g1, g2, g3, g4, g5, hres⟩
        have HI := Lib.hid hI
        clear hI g1 g2 g3 g4 g5 cl3 cn3 cr1 cr2 cr3
        have cl3 := cell1R H1a.out.l; have cn3 := cell1R H1a.out.n; have cr1 := cell1R H1a.out.r1; have cr2 := cell1R H1a.out.r2; have cr3 := cell1R H1a.out.r3
        have fr1 := frozen_of_row _ _ 0 _ _ H1a.out.r1; have fr2 := frozen_of_row _ _ 0 _ _ H1a.out.r2; have fr3 := frozen_of_row _ _ 0 _ _ H1a.out.r3
        gi_wp2
        gi_region_with_o (fail)
        all_goals gi_wp2
        all_goals exact ⟨some .ret, rfl, ((((HK4.out).trans (KeepsOthers.setCell _ _ _)).trans (KeepsOthers.setCell _ _ _)).trans (KeepsOthers.setCell _ _ _)).trans (KeepsOthers.drew _), (fun h => nomatch h), IRead.drew HI.out⟩
    · have hit := fun w hw => itoa_any C.length (by omega) w hw
      have heq := HEq.out
      rw [readA, hEe, if_pos rfl, List.length_map] at heq
      unfold endR endS at heq
      obtain ⟨d, hd⟩ : ∃ d, Lib.decDigits C.length = d := ⟨_, rfl⟩
      have hdl : d.length ≤ 7 := by rw [← hd]; exact dec_most (k := 7) (by decide) (by omega)
      rw [hd] at hit heq
      have HIt := Lib.hid hit; have HEq2 := Lib.hid heq
      clear HEq heq hE hEe hit hd
      gi_wp2
      refine ⟨trivial, (CallsIn.inRound l (callsIn_wide.2 (HIt.out W2 (HVr.out.old H3b.out)))).mono ?_⟩
      rintro e W3 ⟨rfl, hb⟩
      have HK3 := Lib.hid (HK2.out.trans (keeps_below hb))
      have H1 := Lib.hid (H1b.out.below' hb); have H2 := Lib.hid (H2b.out.below hb); have H3 := Lib.hid (H3b.out.trans (hb.mono H3b.out.size))
      have cl3 := cell1R H1.out.l; have cn3 := cell1R H1.out.n; have ct3 := cell1R H1.out.t; have cr1 := cell1R H1.out.r1; have cr2 := cell1R H1.out.r2; have cr3 := cell1R H1.out.r3
      have fr1 := frozen_of_row _ _ 0 _ _ H1.out.r1; have fr2 := frozen_of_row _ _ 0 _ _ H1.out.r2; have fr3 := frozen_of_row _ _ 0 _ _ H1.out.r3
      have hn1 : ¬ 9223372036854775807 < 4 + d.length := by omega
      clear hb cl H1b H2b H3b HK2
      by_cases hrw : row = [101, 110, 100, 32] ++ d
      · by_cases hre : rest = []
        · have hres := HEq2.out
          rw [if_pos ⟨hrw, hre⟩] at hres
          have d1 : (row == 101 :: 110 :: 100 :: 32 :: d) = true := by simp [hrw]
          have d2 : (rest == []) = true := by simp [hre]
          have d3 : rest.isEmpty = true := by simp [hre]
          clear HEq2 hrw hre
          obtain ⟨g1, g2, g3, g4, g5⟩ := read_out H1.out H2.out H3.out (Nat.le_refl _) zk (t.length : Int) 0
          have hI : IRead w w.heap.size w1.heap.size vf vt vn vs s t (some .ret) (pre ++ [(row, rest)]) _ := ⟨rfl, _, C, _, _, g1, g2, g3, g4, g5, hres⟩
          have HI := Lib.hid hI
          clear hI g1 g2 g3 g4 g5
          gi_wp2
          gi_region_with_o (fail)
          all_goals gi_wp2
          all_goals exact ⟨some .ret, rfl, ((((HK3.out).trans (KeepsOthers.setCell _ _ _)).trans (KeepsOthers.setCell _ _ _)).trans (KeepsOthers.setCell _ _ _)).trans (KeepsOthers.drew _), (fun h => nomatch h), IRead.drew HI.out⟩
        · have hres := HEq2.out
          rw [if_neg (fun h => hre h.2)] at hres
          have d1 : (rest == []) = false := by simpa using hre
          have d2 : rest.isEmpty = false := by simpa using hre
          have d3 : (row == 101 :: 110 :: 100 :: 32 :: d) = true := by simp [hrw]
          clear HEq2 hre hrw
          obtain ⟨g1, g2, g3, g4, g5⟩ := read_out H1.out H2.out H3.out (Nat.le_refl _) zk (at' : Int) 14
          have hI : IRead w w.heap.size w1.heap.size vf vt vn vs s t (some .ret) (pre ++ [(row, rest)]) _ := ⟨rfl, _, C, _, _, g1, g2, g3, g4, g5, hres⟩
          have HI := Lib.hid hI
          clear hI g1 g2 g3 g4 g5
          gi_wp2
          gi_region_with_o (fail)
          all_goals gi_wp2
          all_goals exact ⟨some .ret, rfl, ((((HK3.out).trans (KeepsOthers.setCell _ _ _)).trans (KeepsOthers.setCell _ _ _)).trans (KeepsOthers.setCell _ _ _)).trans (KeepsOthers.drew _), (fun h => nomatch h), IRead.drew HI.out⟩
      · have hres := HEq2.out
        rw [if_neg (fun h => hrw h.1)] at hres
        have d1 : (row == 101 :: 110 :: 100 :: 32 :: d) = false := by simpa using hrw
        clear HEq2 hrw
        obtain ⟨g1, g2, g3, g4, g5⟩ := read_out H1.out H2.out H3.out (Nat.le_refl _) zk (at' : Int) 14
        have hI : IRead w w.heap.size w1.heap.size vf vt vn vs s t (some .ret) (pre ++ [(row, rest)]) _ := ⟨rfl, _, C, _, _, g1, g2, g3, g4, g5, hres⟩
        have HI := Lib.hid hI
        clear hI g1 g2 g3 g4 g5
        gi_wp2
        gi_region_with_o (fail)
        all_goals gi_wp2
        all_goals exact ⟨some .ret, rfl, ((((HK3.out).trans (KeepsOthers.setCell _ _ _)).trans (KeepsOthers.setCell _ _ _)).trans (KeepsOthers.setCell _ _ _)).trans (KeepsOthers.drew _), (fun h => nomatch h), IRead.drew HI.out⟩
  case done =>
    rintro D W hD ⟨lv, C, at', h1, h2, h3, h4, h5, h6, h7⟩ hK
    obtain ⟨al, cl_, rfl⟩ := own_slice h2.own
    have heq : readA s t.length [] 0 (rowsL t) = (C.map pR, at', 15) := h7 [] (by simp)
    have hPe : P = (C.map pR, at', 15) := by rw [← HP.out]; exact heq
    have cl := cell1R h1.l; have cn := cell1R h1.n; have cr1 := cell1R h1.r1; have cr2 := cell1R h1.r2; have cr3 := cell1R h1.r3
    have fr1 := frozen_of_row _ _ 0 _ _ h1.r1; have fr2 := frozen_of_row _ _ 0 _ _ h1.r2; have fr3 := frozen_of_row _ _ 0 _ _ h1.r3
    have mixed : Tryz.prog.follows .mixedOrders = true := by kernel_rfl
    have n1 : w.heap.size + 1 + 1 ≠ w.heap.size + 1 + 1 + 1 := by omega
    have n2 : w.heap.size + 1 + 1 ≠ w.heap.size + 1 + 1 + 1 + 1 := by omega
    have n3 : w.heap.size + 1 + 1 + 1 ≠ w.heap.size + 1 + 1 + 1 + 1 := by omega
    have hPh := Lib.hid hPe; have H1 := Lib.hid h1; have H2 := Lib.hid h2; have H3 := Lib.hid h3; have HK := Lib.hid hK
    clear heq h7 h1 h2 h3 hK
    gi_wp2
    gi_region_with_o (fail)
    all_goals gi_wp2
    all_goals
      obtain ⟨g1, g2, g3, g4, g5⟩ := read_out H1.out H2.out H3.out (Nat.le_refl _) zk (at' : Int) 15
      obtain ⟨F, hF⟩ : ∃ F, ((W.setCell ⟨w.heap.size + 1 + 1, 0, none⟩ (.slice al C.length cl_)).setCell ⟨w.heap.size + 1 + 1 + 1, 0, none⟩ (.int .i64 (at' : Int))).setCell ⟨w.heap.size + 1 + 1 + 1 + 1, 0, none⟩ (.int .i64 15) = F := ⟨_, rfl⟩
      have hD2 := lt_of_blk HX3.out
      have hKF : F.heap[D]? = some (.deferred (some [])) := by rw [← hF]; exact blk_far (blk_far (blk_far HK.out (by show D ≠ w.heap.size + 1 + 1; omega)) (by show D ≠ w.heap.size + 1 + 1 + 1; omega)) (by show D ≠ w.heap.size + 1 + 1 + 1 + 1; omega)
      rw [hF] at g1 g2 g3 g4 g5 ⊢
      have hne : ∀ x, x < w1.heap.size → x ≠ D := fun x hx => by have := lt_of_blk HX3.out; omega
      have d1 : ∀ x, x < w1.heap.size → (F.drew.putObj D (.deferred none)).heap[x]? = F.heap[x]? := fun x hx => World.putObj_heap_other (hne x hx)
      have c1 : (F.drew.putObj D (.deferred none)).cell? ⟨w.heap.size + 1 + 1, 0, none⟩ = some (.slice al C.length cl_) := cell1R ((d1 _ (by omega)).trans g1)
      have c2 : (F.drew.putObj D (.deferred none)).cell? ⟨w.heap.size + 1 + 1 + 1, 0, none⟩ = some (.int .i64 at') := cell1R ((d1 _ (by omega)).trans g2)
      have c3 : (F.drew.putObj D (.deferred none)).cell? ⟨w.heap.size + 1 + 1 + 1 + 1, 0, none⟩ = some (.int .i64 15) := cell1R ((d1 _ (by omega)).trans g3)
      have hKd : F.drew.heap[D]? = some (.deferred (some [])) := hKF
      have hbD : Below w.heap.size w (F.drew.putObj D (.deferred none)) := g5.drew.trans (belowK_b (w := w) (Nat.le_refl _) F.drew D _ _ (by have := lt_of_blk HX3.out; omega) hKd rfl rfl)
      have hkD : CellsKept F (F.drew.putObj D (.deferred none)) := ⟨by simp, fun x o hx ho => by
        by_cases hxD : x = D
        · subst hxD; rw [hKF] at hx; cases hx; cases ho
        · exact (World.putObj_heap_other hxD).trans hx⟩
      refine ⟨by simp, .inl ⟨_, _, rfl, run_takeDeferred hKd, ?_⟩⟩
      refine ⟨.tuple #[.slice al C.length cl_, .int .i64 at', .int .i64 15], ?_, ⟨.slice al C.length cl_, by rw [hPh.out], by rw [hPh.out]; exact (g4.kept hkD).vec (by omega), hbD⟩⟩
      simp [results, Tryz.f11, go_sem, c1, c2, c3]
  case stop =>
    rintro D c pre W hD hpre ⟨rfl, lv, C, m, er, g1, g2, g3, hrc, hB, heq⟩ hK
    gi_wp2
    have hne : ∀ x, x < w1.heap.size → x ≠ D := fun x hx => by have := lt_of_blk HX3.out; omega
    have d1 : ∀ x, x < w1.heap.size → (W.putObj D (.deferred none)).heap[x]? = W.heap[x]? := fun x hx => World.putObj_heap_other (hne x hx)
    have c1 : (W.putObj D (.deferred none)).cell? ⟨w.heap.size + 1 + 1, 0, none⟩ = some lv := cell1R ((d1 _ (by omega)).trans g1)
    have c2 : (W.putObj D (.deferred none)).cell? ⟨w.heap.size + 1 + 1 + 1, 0, none⟩ = some (.int .i64 m) := cell1R ((d1 _ (by omega)).trans g2)
    have c3 : (W.putObj D (.deferred none)).cell? ⟨w.heap.size + 1 + 1 + 1 + 1, 0, none⟩ = some (.int .i64 er) := cell1R ((d1 _ (by omega)).trans g3)
    have hbD : Below w.heap.size w (W.putObj D (.deferred none)) := hB.trans (belowK_b (w := w) (Nat.le_refl _) W D _ _ (by have := lt_of_blk HX3.out; omega) hK rfl rfl)
    have hkD : CellsKept W (W.putObj D (.deferred none)) := ⟨by simp, fun x o hx ho => by
      by_cases hxD : x = D
      · subst hxD; rw [hK] at hx; cases hx; cases ho
      · exact (World.putObj_heap_other hxD).trans hx⟩
    refine ⟨by simp, .inl ⟨_, _, rfl, run_takeDeferred hK, ?_⟩⟩
    have hPe : P = (C.map pR, m, er) := by rw [← HP.out]; exact heq
    refine ⟨.tuple #[lv, .int .i64 m, .int .i64 er], ?_, ⟨lv, by rw [hPe], by rw [hPe]; exact (hrc.kept hkD).vec (by omega), hbD⟩⟩
    simp [results, Tryz.f11, go_sem, c1, c2, c3]
end
section
set_option maxRecDepth 100000
open Go.RowKit Cal
attribute [local go_sem] toList_mk mk_size str_append
theorem rsameD_any (S T : Nat → Prop) (va vb : Value) (A B : List (List UInt8)) (w : World) (hA : Vec w S 1 encS va A) (hB : Vec w T 1 encS vb B) (hn : A.length ≤ 1000000) (hm : B.length ≤ 1000000) :
    Calls Tryz.prog 51 #[va, vb] w fun e w' => e = .returned (.bool (decide (A = B))) ∧ Below w.heap.size w w' := by
  have h := rsame_any S T va vb A B w hA hB hn hm
  rw [show (A == B) = decide (A = B) by by_cases h : A = B <;> simp [h]] at h
  exact h
set_option maxHeartbeats 4000000 in
theorem rrsame_any (S T : Nat → Prop) (u v : Value) (a b : RecL) (w : World) (hu : Vec w S 1 encS u a.vals) (hv : Vec w T 1 encS v b.vals) (hn : a.vals.length ≤ 1000000) (hm : b.vals.length ≤ 1000000) :
    Calls Tryz.prog 21 #[.agg #[.int .i64 a.id, .int .i64 a.ver, u], .agg #[.int .i64 b.id, .int .i64 b.ver, v]] w fun e w' => e = .returned (.bool (sameR a b)) ∧ Below w.heap.size w w' := by
  obtain ⟨ua, uc, rfl⟩ := hu.slice
  obtain ⟨va, vc, rfl⟩ := hv.slice
  obtain ⟨i1, n1, A⟩ := a
  obtain ⟨i2, n2, B⟩ := b
  dsimp only at hu hv hn hm ⊢
  have HU := Lib.hid hu; have HV := Lib.hid hv
  clear hu hv
  have hq : (i1 == i2) = decide (i1 = i2) := beq_dec i1 i2
  have hq2 : (n1 == n2) = decide (n1 = n2) := beq_dec n1 n2
  cases h1 : decide (i1 = i2)
  · have e : sameR ⟨i1, n1, A⟩ ⟨i2, n2, B⟩ = false := by unfold sameR; dsimp only; rw [h1]; rfl
    rw [e]
    rw [h1] at hq
    go_enter Tryz.func21, Tryz.ntmps21
    go_wp2_with fail
    go_ret
    exact ⟨rfl, ((Below.refl w.heap.size w).alloc (Nat.le_refl _) _).alloc (by simp) _⟩
  · rw [h1] at hq
    cases h2 : decide (n1 = n2)
    · have e : sameR ⟨i1, n1, A⟩ ⟨i2, n2, B⟩ = false := by unfold sameR; dsimp only; rw [h1, h2]; rfl
      rw [e]
      rw [h2] at hq2
      go_enter Tryz.func21, Tryz.ntmps21
      go_wp2_with fail
      go_ret
      exact ⟨rfl, ((Below.refl w.heap.size w).alloc (Nat.le_refl _) _).alloc (by simp) _⟩
    · rw [h2] at hq2
      have e : sameR ⟨i1, n1, A⟩ ⟨i2, n2, B⟩ = decide (A = B) := by unfold sameR; dsimp only; rw [h1, h2]; rfl
      rw [e]
      go_enter Tryz.func21, Tryz.ntmps21
      go_wp2_with fail
      refine wp_calls_world (fun W hW => ?_)
      have hb0 : Below w.heap.size w W := by rw [hW]; exact ((Below.refl w.heap.size w).alloc (Nat.le_refl _) _).alloc (by simp) _
      clear hW
      refine (rsameD_any S T _ _ A B W (HU.out.below hb0) (HV.out.below hb0) hn hm).mono ?_
      rintro e w1 ⟨rfl, hb⟩
      go_wp2_with fail
      go_ret
      exact ⟨rfl, hb0.trans (hb.mono hb0.size)⟩

/-- two lists of records are the same -/
def sameRs (A B : List RecL) : Bool := decide (A.length = B.length) && (List.range A.length).all fun i => sameR (A.getD i noRec) (B.getD i noRec)
theorem sameRs_self (A : List RecL) : sameRs A A = true := by
  unfold sameRs
  rw [decide_eq_true rfl, Bool.true_and, List.all_eq_true]
  intro i _
  exact sameR_self _ _ rfl rfl rfl
set_option maxHeartbeats 4000000 in
theorem rsameall_any (S T : Nat → Prop) (u v : Value) (A B : List RecL) (w : World) (hu : RecsVec w S u A) (hv : RecsVec w T v B) (hn : A.length ≤ 1000000) (hm : ∀ r ∈ A, r.vals.length ≤ 1000000) (hm2 : ∀ r ∈ B, r.vals.length ≤ 1000000) :
    Calls Tryz.prog 12 #[u, v] w fun e w' => e = .returned (.bool (sameRs A B)) ∧ Below w.heap.size w w' := by
  obtain ⟨aa, ca, rfl⟩ := hu.slice
  obtain ⟨ab, cb, rfl⟩ := hv.slice
  have HU := Lib.hid hu; have HV := Lib.hid hv; have HM := Lib.hid hm; have HM2 := Lib.hid hm2
  clear hu hv hm hm2
  by_cases hl : A.length = B.length
  · have hne : ((A.length : Int) != (B.length : Int)) = false := by rw [hl]; simp
    have hne2 : (A.length != B.length) = false := by rw [hl]; simp
    have hfin : ∀ n : Bool, sameRs A B = n → Ending.returned (.bool n) = .returned (.bool (sameRs A B)) := fun n h => by rw [h]
    have HF := Lib.hid hfin; have HL := Lib.hid hl
    clear hfin hl
    go_enter Tryz.func12, Tryz.ntmps12
    go_wp2_with fail
    clear hne hne2
    go_loopw [5] (fun i wr => ∃ k : Nat, k ≤ A.length ∧ i = .int .i64 k ∧ Hid (Below w.heap.size w wr) ∧ Hid (∀ j, j < k → sameR (A.getD j noRec) (B.getD j noRec) = true)) (fun i _ => A.length - (intOf i).toNat)
    case atStart => exact ⟨0, by omega, rfl, Lib.hid (Below.refl _ _), Lib.hid fun j hj => by omega⟩
    case round =>
      obtain ⟨k, hk, rfl, HW, HE⟩ := hrel
      by_cases hlt : k < A.length
      · have hq : decide ((k : Int) < A.length) = true := by simp; omega
        have hi1 : (k : Int) < (A.length : Int) := by omega
        have hi2 : (k : Int) < (B.length : Int) := by rw [← HL.out]; omega
        have hlt2 : k < B.length := by rw [← HL.out]; exact hlt
        obtain ⟨b1, o1, id1, ver1, a1, n1, c1, vals1, e1, lb1, x0, x1, x2, hA, hva⟩ := (HU.out.below HW.out).at k hlt
        obtain ⟨b2, o2, id2, ver2, a2, n2, c2, vals2, e2, lb2, y0, y1, y2, hB, hvb⟩ := (HV.out.below HW.out).at k hlt2
        cases e1; cases e2
        have hm1 := HM.out A[k] (List.getElem_mem hlt); have hm2 := HM2.out B[k] (List.getElem_mem hlt2)
        have hgA : A.getD k noRec = ⟨id1, ver1, vals1⟩ := by rw [getD_at _ _ hlt]; exact hA
        have hgB : B.getD k noRec = ⟨id2, ver2, vals2⟩ := by rw [getD_at _ _ hlt2]; exact hB
        rw [hA] at hm1; rw [hB] at hm2
        have hcall := fun w h1 h2 => rrsame_any S T (.slice a1 n1 c1) (.slice a2 n2 c2) ⟨id1, ver1, vals1⟩ ⟨id2, ver2, vals2⟩ w h1 h2 hm1 hm2
        obtain ⟨q, hqq⟩ : ∃ q, sameR ⟨id1, ver1, vals1⟩ ⟨id2, ver2, vals2⟩ = q := ⟨_, rfl⟩
        have hqe : sameR (A.getD k noRec) (B.getD k noRec) = q := by rw [hgA, hgB]; exact hqq
        rw [hqq] at hcall
        have HC := Lib.hid hcall; have HQ := Lib.hid hqe; have HVa := Lib.hid hva; have HVb := Lib.hid hvb
        have bD : Below wr.heap.size wr wr.drew := (Below.refl _ _).drew
        clear hm1 hm2 hgA hgB hcall hqq hqe hA hB hva hvb
        cases q
        · go_wp2_with fail
          refine wp_region_noPanic ?_
          refine wp_region_held_drew (S := (fun w' => w'.cell? ⟨b1, o1 + k * 3, none⟩ = some (.int .i64 id1) ∧ w'.cell? ⟨b1, o1 + k * 3 + 1, none⟩ = some (.int .i64 ver1) ∧ w'.cell? ⟨b1, o1 + k * 3 + 2, none⟩ = some (.slice a1 n1 c1) ∧ w'.cell? ⟨b2, o2 + k * 3, none⟩ = some (.int .i64 id2) ∧ w'.cell? ⟨b2, o2 + k * 3 + 1, none⟩ = some (.int .i64 ver2) ∧ w'.cell? ⟨b2, o2 + k * 3 + 2, none⟩ = some (.slice a2 n2 c2))) (by kernel_rfl) (⟨x0, x1, x2, y0, y1, y2⟩) (fun hHeld => ?_)
          refine tH 0 (h := ?_)
          try simp only [List.getElem_toArray, List.getElem_cons_zero, List.getElem_cons_succ, Act.put, List.setIfInBounds_toArray, List.set_cons_zero, List.set_cons_succ]
          refine tH 1 (h := ?_)
          try simp only [List.getElem_toArray, List.getElem_cons_zero, List.getElem_cons_succ, Act.put, List.setIfInBounds_toArray, List.set_cons_zero, List.set_cons_succ]
          refine tH 2 (h := ?_)
          try simp only [List.getElem_toArray, List.getElem_cons_zero, List.getElem_cons_succ, Act.put, List.setIfInBounds_toArray, List.set_cons_zero, List.set_cons_succ]
          refine tH 3 (h := ?_)
          try simp only [List.getElem_toArray, List.getElem_cons_zero, List.getElem_cons_succ, Act.put, List.setIfInBounds_toArray, List.set_cons_zero, List.set_cons_succ]
          refine tH 4 (h := ?_)
          try simp only [List.getElem_toArray, List.getElem_cons_zero, List.getElem_cons_succ, Act.put, List.setIfInBounds_toArray, List.set_cons_zero, List.set_cons_succ]
          refine tH 5 (h := ?_)
          try simp only [List.getElem_toArray, List.getElem_cons_zero, List.getElem_cons_succ, Act.put, List.setIfInBounds_toArray, List.set_cons_zero, List.set_cons_succ]
          refine tH 6 (h := ?_)
          try simp only [List.getElem_toArray, List.getElem_cons_zero, List.getElem_cons_succ, Act.put, List.setIfInBounds_toArray, List.set_cons_zero, List.set_cons_succ]
          refine tH 7 (h := ?_)
          try simp only [List.getElem_toArray, List.getElem_cons_zero, List.getElem_cons_succ, Act.put, List.setIfInBounds_toArray, List.set_cons_zero, List.set_cons_succ]
          refine wpAnyH_ready (rs := [8]) (by kernel_rfl) (by simp) ?_
          refine AllReadyH.cons rfl (fun K hK => ?_) AllReadyH.nil
          go_simp
          refine (HC.out _ (HVa.out.below bD) (HVb.out.below bD)).mono ?_; rintro e w2 ⟨rfl, hb⟩; have b2' := bD.trans (hb.mono bD.size); clear hb
          refine hK.out _ _ (⟨(b2'.cell (p := ⟨b1, o1 + k * 3, none⟩) lb1).trans x0, (b2'.cell (p := ⟨b1, o1 + k * 3 + 1, none⟩) lb1).trans x1, (b2'.cell (p := ⟨b1, o1 + k * 3 + 2, none⟩) lb1).trans x2, (b2'.cell (p := ⟨b2, o2 + k * 3, none⟩) lb2).trans y0, (b2'.cell (p := ⟨b2, o2 + k * 3 + 1, none⟩) lb2).trans y1, (b2'.cell (p := ⟨b2, o2 + k * 3 + 2, none⟩) lb2).trans y2⟩) (fun hHeld => ?_)
          clear hK K
          try simp only [List.getElem_toArray, List.getElem_cons_zero, List.getElem_cons_succ, Act.put, List.setIfInBounds_toArray, List.set_cons_zero, List.set_cons_succ]
          refine tH 9 (h := ?_)
          try simp only [List.getElem_toArray, List.getElem_cons_zero, List.getElem_cons_succ, Act.put, List.setIfInBounds_toArray, List.set_cons_zero, List.set_cons_succ]
          refine wpAnyH_done (by kernel_rfl) ?_ _
          refine NoPanic.normal ?_
          have HB2 := Lib.hid (HW.out.trans (b2'.mono HW.out.size))
          clear b2' bD hHeld x0 x1 x2 y0 y1 y2
          go_wp2_with fail
          go_ret
          refine ⟨HF.out false ?_, HB2.out⟩
          unfold sameRs
          have : ((List.range A.length).all fun i => sameR (A.getD i noRec) (B.getD i noRec)) = false := by
            rw [List.all_eq_false]
            exact ⟨k, List.mem_range.2 hlt, by rw [HQ.out]; simp⟩
          rw [this, Bool.and_false]
        · go_wp2_with fail
          refine wp_region_noPanic ?_
          refine wp_region_held_drew (S := (fun w' => w'.cell? ⟨b1, o1 + k * 3, none⟩ = some (.int .i64 id1) ∧ w'.cell? ⟨b1, o1 + k * 3 + 1, none⟩ = some (.int .i64 ver1) ∧ w'.cell? ⟨b1, o1 + k * 3 + 2, none⟩ = some (.slice a1 n1 c1) ∧ w'.cell? ⟨b2, o2 + k * 3, none⟩ = some (.int .i64 id2) ∧ w'.cell? ⟨b2, o2 + k * 3 + 1, none⟩ = some (.int .i64 ver2) ∧ w'.cell? ⟨b2, o2 + k * 3 + 2, none⟩ = some (.slice a2 n2 c2))) (by kernel_rfl) (⟨x0, x1, x2, y0, y1, y2⟩) (fun hHeld => ?_)
          refine tH 0 (h := ?_)
          try simp only [List.getElem_toArray, List.getElem_cons_zero, List.getElem_cons_succ, Act.put, List.setIfInBounds_toArray, List.set_cons_zero, List.set_cons_succ]
          refine tH 1 (h := ?_)
          try simp only [List.getElem_toArray, List.getElem_cons_zero, List.getElem_cons_succ, Act.put, List.setIfInBounds_toArray, List.set_cons_zero, List.set_cons_succ]
          refine tH 2 (h := ?_)
          try simp only [List.getElem_toArray, List.getElem_cons_zero, List.getElem_cons_succ, Act.put, List.setIfInBounds_toArray, List.set_cons_zero, List.set_cons_succ]
          refine tH 3 (h := ?_)
          try simp only [List.getElem_toArray, List.getElem_cons_zero, List.getElem_cons_succ, Act.put, List.setIfInBounds_toArray, List.set_cons_zero, List.set_cons_succ]
          refine tH 4 (h := ?_)
          try simp only [List.getElem_toArray, List.getElem_cons_zero, List.getElem_cons_succ, Act.put, List.setIfInBounds_toArray, List.set_cons_zero, List.set_cons_succ]
          refine tH 5 (h := ?_)
          try simp only [List.getElem_toArray, List.getElem_cons_zero, List.getElem_cons_succ, Act.put, List.setIfInBounds_toArray, List.set_cons_zero, List.set_cons_succ]
          refine tH 6 (h := ?_)
          try simp only [List.getElem_toArray, List.getElem_cons_zero, List.getElem_cons_succ, Act.put, List.setIfInBounds_toArray, List.set_cons_zero, List.set_cons_succ]
          refine tH 7 (h := ?_)
          try simp only [List.getElem_toArray, List.getElem_cons_zero, List.getElem_cons_succ, Act.put, List.setIfInBounds_toArray, List.set_cons_zero, List.set_cons_succ]
          refine wpAnyH_ready (rs := [8]) (by kernel_rfl) (by simp) ?_
          refine AllReadyH.cons rfl (fun K hK => ?_) AllReadyH.nil
          go_simp
          refine (HC.out _ (HVa.out.below bD) (HVb.out.below bD)).mono ?_; rintro e w2 ⟨rfl, hb⟩; have b2' := bD.trans (hb.mono bD.size); clear hb
          refine hK.out _ _ (⟨(b2'.cell (p := ⟨b1, o1 + k * 3, none⟩) lb1).trans x0, (b2'.cell (p := ⟨b1, o1 + k * 3 + 1, none⟩) lb1).trans x1, (b2'.cell (p := ⟨b1, o1 + k * 3 + 2, none⟩) lb1).trans x2, (b2'.cell (p := ⟨b2, o2 + k * 3, none⟩) lb2).trans y0, (b2'.cell (p := ⟨b2, o2 + k * 3 + 1, none⟩) lb2).trans y1, (b2'.cell (p := ⟨b2, o2 + k * 3 + 2, none⟩) lb2).trans y2⟩) (fun hHeld => ?_)
          clear hK K
          try simp only [List.getElem_toArray, List.getElem_cons_zero, List.getElem_cons_succ, Act.put, List.setIfInBounds_toArray, List.set_cons_zero, List.set_cons_succ]
          refine tH 9 (h := ?_)
          try simp only [List.getElem_toArray, List.getElem_cons_zero, List.getElem_cons_succ, Act.put, List.setIfInBounds_toArray, List.set_cons_zero, List.set_cons_succ]
          refine wpAnyH_done (by kernel_rfl) ?_ _
          refine NoPanic.normal ?_
          have HB2 := Lib.hid (HW.out.trans (b2'.mono HW.out.size))
          have HT := Lib.hid (show ∀ j, j < k + 1 → sameR (A.getD j noRec) (B.getD j noRec) = true from fun j hj => by
            by_cases e : j = k
            · subst e; exact HQ.out
            · exact HE.out j (by omega))
          clear b2' bD hHeld x0 x1 x2 y0 y1 y2
          go_wp2_with fail
          go_roundw
          case rel => exact ⟨k + 1, by omega, by go_num, HB2, HT⟩
          case measure => simp [intOf]; omega
      · have hq : decide ((k : Int) < A.length) = false := by simp; omega
        have hkk : k = A.length := by omega
        have HKK := Lib.hid hkk
        clear hkk
        go_wp2_with fail
        go_ret
        refine ⟨HF.out true ?_, HW.out⟩
        unfold sameRs
        rw [decide_eq_true HL.out, Bool.true_and, List.all_eq_true]
        intro j hj
        exact HE.out j (by rw [HKK.out]; exact List.mem_range.1 hj)
  · have hne : ((A.length : Int) != (B.length : Int)) = true := by simp; omega
    have hne2 : (A.length != B.length) = true := by simp; omega
    have hs : sameRs A B = false := by unfold sameRs; rw [decide_eq_false hl, Bool.false_and]
    rw [hs]
    clear hl hs
    go_enter Tryz.func12, Tryz.ntmps12
    go_wp2_with fail
    go_ret
    exact ⟨rfl, Below.refl _ _⟩
end
section
open Go
theorem handed_shaped {H : Type} {enc : TypeId × Value → H} {a : Assume} {C : Checked} {os : Os} {f : FuncId} {fn : Func} {s : ChangeSpec} {conds : List PathCond} {apart fresh handsOn again : Bool} {X : World → Array Value → Prop}
    (hX : ∀ (w w' : World) (args : Array Value), w.heap = w'.heap → X w args → X w' args)
    (own : ownKnob C.prog.godebug = none) (started : os.Started) (noInit : C.prog.inits.idxOf? f = none) (hfn : C.prog.funcs[f]? = some fn)
    (witness : ∃ (w : World) (tape : Tape) (i : Input), w.os = os ∧ (w.forCall tape i).Shaped C.prog ∧ i.vars = [] ∧ Input.okWide C.prog (w.forCall tape i) .any w.heap.size f i ∧
      ((s.pre enc C.prog fn conds apart (w.forCall tape i).memory i.args ∧ X (w.forCall tape i).memory i.args) ∧ sizedMet enc C.prog fn (OpenSpec.ofChange s) apart (w.forCall tape i).memory i.args) ∧ a.holds C.prog (lone (Frame.enter C.prog f i.args .normal) [] (w.forCall tape i)))
    (contract : ∀ (W : World) (base : Nat) (args : Array Value) (ds gs : List (DataW H)) (before : List MemPlace),
      (∀ (j : Nat) t v, fn.params[j]? = some t → args[j]? = some v → Value.okWide C.prog W .any base t v) →
      DataW.Whole enc C.prog fn.params.toList s.vars apart W args.toList ds gs before →
      X W args → W.ShapedOpen C.prog →
      Calls C.prog f args W fun e W' => ∃ v, e = .returned v ∧ s.post enc C.prog fn apart fresh handsOn again W args v W') :
    ReturnsInHanded a C os f .any (fun w args => (s.pre enc C.prog fn conds apart w args ∧ X w args) ∧ sizedMet enc C.prog fn (OpenSpec.ofChange s) apart w args) (s.post enc C.prog fn apart fresh handsOn again) := by
  refine returnsInHanded_of_calls own started noInit witness ?_
  intro w tape i _ hsh _ hok hpre hholds
  obtain ⟨_, _, _, fn', hfn', _, _, _, _, hval⟩ := hok
  obtain rfl : fn' = fn := Option.some.inj (hfn'.symm.trans hfn)
  obtain ⟨⟨⟨ds, gs, before, hw, hc⟩, hx⟩, hz⟩ := hpre
  refine (contract (w.forCall tape i) w.heap.size i.args ds gs before hval (DataW.Whole.of_heap (w' := w.forCall tape i) (by rfl) hw) (hX _ _ _ (by rfl) hx) hsh).mono fun e W' ⟨v, he, hp⟩ => ?_
  subst he
  exact ChangeSpec.post_blind hp
end
section
set_option maxRecDepth 100000
open Go Go.RowKit
theorem laid_at {P : Program} {w : World} : ∀ {l : List (String × DataW Unit)} {ps : List MemPlace}, DataW.LaidVars P w l ps → ∀ (i : Nat) (n : String) (d : DataW Unit), l[i]? = some (n, d) → ∃ g t cs fuel p, P.globalNamed n = some g ∧ (P.globals[g]?).map (·.type) = some t ∧ w.var? P n = some cs ∧ DataW.trod (fun _ => ()) P w 0 (fun _ => true) false fuel t cs.toList = some (d, p)
  | [], ps, h, i, n, d, hi => by simp at hi
  | (m, e) :: r, ps, h, 0, n, d, hi => by
    obtain ⟨g, t, cs, fuel, p, q, h1, h2, h3, h4, _, _⟩ := h
    simp at hi
    obtain ⟨rfl, rfl⟩ := hi
    exact ⟨g, t, cs, fuel, p, h1, h2, h3, h4⟩
  | (m, e) :: r, ps, h, i + 1, n, d, hi => by
    obtain ⟨g, t, cs, fuel, p, q, _, _, _, _, h5, _⟩ := h
    exact laid_at h5 i n d (by simpa using hi)
theorem tab_give {P : Program} {w : World} {l : List (String × DataW Unit)} {ps : List MemPlace} (h : DataW.LaidVars P w l ps) {i : Nat} {name : String} {k : IntKind} {zs : List Int} (hi : l[i]? = some (name, Lib.tabData k zs)) {g : Nat} {t e : TypeId} {n : Nat}
    (hg : P.globalNamed name = some g) (hty : (P.globals[g]?).map (·.type) = some t) (ht : P.underlying t = some (.array n e)) (he : P.underlying e = some (.int k)) (hce : P.cellsOf e = 1) (hct : P.cellsOf t = n) : Lib.TabIs P w name k zs := by
  obtain ⟨g', t', cs, fuel, p, hg', ht', hvar, hd⟩ := laid_at h i _ _ hi
  obtain rfl := Option.some.inj (hg.symm.trans hg')
  obtain rfl := Option.some.inj (hty.symm.trans ht')
  unfold Lib.TabIs
  rw [hvar, ← Lib.cells_of_tab ht he hce hct hd]
theorem iface_give {P : Program} {w : World} {l : List (String × DataW Unit)} {ps : List MemPlace} (h : DataW.LaidVars P w l ps) {i : Nat} {name nm : String} {d : DataW Unit} (hi : l[i]? = some (name, .iface nm d)) {g : Nat} {t : TypeId} {ms : Array (String × TypeId)}
    (hg : P.globalNamed name = some g) (hty : (P.globals[g]?).map (·.type) = some t) (ht : P.underlying t = some (.interface ms)) : IfaceAt w g := by
  obtain ⟨g', t', cs, fuel, p, hg', ht', hvar, hd⟩ := laid_at h i _ _ hi
  obtain rfl := Option.some.inj (hg.symm.trans hg')
  obtain rfl := Option.some.inj (hty.symm.trans ht')
  obtain ⟨_, u, v, hcs, _, _⟩ := iface_of_trod ht hd
  have := World.var?_cell hg hvar 0
  refine ⟨.iface u v, ?_, .inr ⟨u, v, rfl⟩⟩
  rw [this, ← Array.getElem?_toList, hcs]; rfl
theorem vars_give {l : List (String × DataW Unit)} {W : World} (hsh : W.ShapedOpen Tryz.prog) (hl : laidMetH Tryz.prog l W) (hp : (l.all fun x => x.2.handleName?.isNone) = true) (i : Nat) (hi : l[i]? = some ("internal/strconv.uint64pow10", Lib.tabData .u64 Lib.pow10Tab))
    (j : Nat) {n1 : String} {d1 : DataW Unit} (hj : l[j]? = some ("strconv.ErrSyntax", .iface n1 d1)) (k : Nat) {n2 : String} {d2 : DataW Unit} (hk : l[k]? = some ("strconv.ErrRange", .iface n2 d2)) : VarsAt W := by
  rw [MakeChecks.laidMetH_plain _ _ _ hp] at hl
  obtain ⟨ps, h, _, _⟩ := hl
  refine ⟨tab_give h hi (g := 1) (by kernel_rfl) (by kernel_rfl) Tryz.underlying187 (by kernel_rfl) (by kernel_rfl) (by kernel_rfl), ?_, ?_, Tryz.laysM145.s1_3 W hsh⟩
  · exact iface_give h hj (by kernel_rfl) (by kernel_rfl) Tryz.underlying73
  · exact iface_give h hk (by kernel_rfl) (by kernel_rfl) Tryz.underlying73
def dbTab : List Int := [0, 1, 56, 2, 57, 49, 28, 3, 61, 58, 42, 50, 38, 29, 17, 4, 62, 47, 59, 36, 45, 43, 51, 22, 53, 39, 33, 30, 24, 18, 12, 5, 63, 55, 48, 27, 60, 41, 37, 16, 46, 35, 44, 21, 52, 32, 23, 11, 54, 26, 40, 15, 34, 20, 31, 10, 25, 14, 19, 9, 13, 8, 7, 6]
theorem db_give {l : List (String × DataW Unit)} {W : World} (hl : laidMetH Tryz.prog l W) (hp : (l.all fun x => x.2.handleName?.isNone) = true) (i : Nat) (hi : l[i]? = some ("math/bits.deBruijn64tab", Lib.tabData .u8 dbTab)) : DbAt W := by
  rw [MakeChecks.laidMetH_plain _ _ _ hp] at hl
  obtain ⟨ps, h, _, _⟩ := hl
  have ht : Lib.TabIs Tryz.prog W "math/bits.deBruijn64tab" .u8 dbTab := tab_give h hi (g := 5) (by kernel_rfl) (by kernel_rfl) Tryz.underlying228 (by kernel_rfl) (by kernel_rfl) (by kernel_rfl)
  have := ht.cell (g := 5) (by kernel_rfl) 15 (by decide)
  exact this
end
end Go.Proofs.YthnfmolkppbbpaaGreatDoor
