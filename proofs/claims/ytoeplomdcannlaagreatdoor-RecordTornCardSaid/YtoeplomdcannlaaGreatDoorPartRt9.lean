/- Parts of one proof: ReadAny, RefRecA, RecordBackWalk, RefSipA, RefSipB, RefSipC, RefRecB, RefRecC, RefRecD. -/
import Derived.Test.YtoeplomdcannlaaGreatDoorPartRt8
set_option linter.unusedSimpArgs false
set_option linter.unusedVariables false
namespace Go.Proofs.YtoeplomdcannlaaGreatDoor
section
set_option maxRecDepth 100000
open Go.RowKit Go.Shelf Cal
attribute [local go_sem] Oper.semAt_some toList_mk mk_size str_append
def ReadPost (p : List RecL × Nat × Int) (w : World) (e : Ending) (w' : World) : Prop :=
  ∃ v, e = .returned (.tuple #[v, .int .i64 p.2.1, .int .i64 p.2.2]) ∧ RecsVec w' (fun b => w.heap.size ≤ b) v p.1 ∧ Below w.heap.size w w'
theorem rowsA_short : ∀ (t p : List UInt8) (x : List UInt8 × List UInt8), x ∈ rowsA p t → x.1.length ≤ p.length + t.length ∧ x.2.length ≤ t.length
  | [], p, x, h => by cases h
  | c :: t, p, x, h => by
    rw [rowsA] at h
    split at h
    · rcases List.mem_cons.1 h with rfl | h1
      · exact ⟨by simp, by simp⟩
      · have := rowsA_short t [] x h1
        simp at this ⊢; omega
    · have := rowsA_short t (p ++ [c]) x h
      simp at this ⊢; omega
theorem cell_grown {A C : World} {x i : Nat} {row : Option Nat} (hg : A.grownBy C row) (hl : x < A.heap.size) (hn : row ≠ some x) : C.cell? ⟨x, i, none⟩ = A.cell? ⟨x, i, none⟩ :=
  World.cell?_of_block (w := A) (a := ⟨x, i, none⟩) (hg.block x hl (fun e => hn e.symm))
theorem wpIn_world {F : Fence} {n : Nat} {P : Program} {c : Code} {Q : Exit → Act → World → Prop} {a : Act} {W : World} (h : ∀ w', w' = W → c.wpIn F n P Q a w') : c.wpIn F n P Q a W := h W rfl
theorem takeN_full {s : SchemaL} {l : List RecL} {row : List UInt8} (h : ¬ l.length < 64) : l.length ≤ 64 → (takeN s l row).2 ≠ 0 := by
  intro h2
  have h64 : l.length = 64 := by omega
  unfold takeN
  split
  · decide
  · split
    · split
      · split
        · first | decide | (rw [if_pos h64]; decide)
        · next hne => exact hne
      · decide
    · decide
theorem RdCells.below' {b k : Nat} {vf vt vn vs : Value} {t : List UInt8} {lv : Value} {at' : Nat} {W W' : World} (h : RdCells b k vf vt vn vs t lv at' W) (hb : Below W.heap.size W W') : RdCells b k vf vt vn vs t lv at' W' :=
  h.same fun x o _ hx _ => blk_below hb (lt_of_blk hx) hx
theorem keepsRow_below {x B : Nat} {W W' : World} (hb : Below W.heap.size W W') (hx : x < W.heap.size) (hg : Tryz.laysM145_ren.g 1 < B) (hB : B ≤ W.heap.size) : KeepsRow x W W' :=
  ⟨hb.block x hx, fun m hm => (hb.cell (p := ⟨_, 0, none⟩) (Nat.lt_of_lt_of_le hg hB)).trans hm⟩
theorem IRead.drew {w : World} {b k : Nat} {vf vt vn vs : Value} {s : SchemaL} {t : List UInt8} {j : Option Code} {p : List (List UInt8 × List UInt8)} {A : World} (h : IRead w b k vf vt vn vs s t j p A) : IRead w b k vf vt vn vs s t j p A.drew := by
  cases j with
  | none =>
    obtain ⟨lv, L, at', h1, h2, h3, h4, h5⟩ := h
    exact ⟨lv, L, at', h1.same fun x o _ hx _ => hx, h2.same (Nat.le_refl _) fun x o _ hx _ => hx, h3.drew, h4, h5⟩
  | some c =>
    obtain ⟨hc, lv, L, m, er, h1, h2, h3, h4, h5, h6⟩ := h
    exact ⟨hc, lv, L, m, er, h1, h2, h3, h4.same (Nat.le_refl _) fun x o _ hx _ => hx, h5.drew, h6⟩
set_option maxHeartbeats 16000000 in
theorem precread_any (S : Nat → Prop) (vf vt vn vs : Value) (s : SchemaL) (t : List UInt8) (w : World) (hvr : VarsAt w) (hdb : DbAt w) (h : SchemaAt w S vf vt vn vs s) (hc : checkS s = 0) (ht : t.length ≤ 50000) :
    Calls Tryz.prog 24 #[.agg #[vf, vt, vn, vs], strV t] w (ReadPost (freadN s t) w) := by
  have hrd : freadN s t = readA s t.length [] 0 (rowsL t) := by unfold freadN; rw [if_pos hc]
  obtain ⟨P, hP⟩ : ∃ P, readA s t.length [] 0 (rowsL t) = P := ⟨_, rfl⟩
  rw [hrd, hP]
  have HP := Lib.hid hP
  have HS := Lib.hid h; have HC := Lib.hid hc; have HVr := Lib.hid hvr; have HDb := Lib.hid hdb
  have hshort := fun x hx => rowsA_short t [] x hx
  have HSh := Lib.hid hshort
  clear h hc hvr hdb hrd hP hshort
  refine (callsIn_wide (n := 6)).1 ?_
  refine callsIn_of_wp_marks Tryz.func24 rfl trivial ?_ rfl
  simp only [Tryz.ntmps24, List.size_toArray, List.length_cons, List.length_nil, Nat.reduceAdd, Nat.reduceSub, Array.replicate_succ, Array.replicate_zero, List.push_toArray, List.append_toArray, List.nil_append, List.cons_append]
  gi_wp2
  refine ⟨trivial, callsIn_world fun W hW => ?_⟩
  have hb0 : Below w.heap.size w W := by rw [hW]; exact (((((Below.refl w.heap.size w).alloc (Nat.le_refl _) _).alloc (by simp) _).alloc (by simp; omega) _).alloc (by simp; omega) _).alloc (by simp; omega) _
  have h0 : W.heap[w.heap.size]? = some (.cells #[vf, vt, vn, vs] 33 (0, 0)) := by rw [hW]; exact blk_old (blk_old (blk_old (blk_old (blk_new rfl))))
  have h1 : W.heap[w.heap.size + 1]? = some (.cells #[strV t] 9 (0, 0)) := by rw [hW]; exact blk_old (blk_old (blk_old (blk_new (by simp))))
  have h2 : W.heap[w.heap.size + 1 + 1]? = some (.cells #[.slice none 0 0] 58 (0, 0)) := by rw [hW]; exact blk_old (blk_old (blk_new (by simp)))
  have h3 : W.heap[w.heap.size + 1 + 1 + 1]? = some (.cells #[.int .i64 0] 3 (0, 0)) := by rw [hW]; exact blk_old (blk_new (by simp))
  have h4 : W.heap[w.heap.size + 1 + 1 + 1 + 1]? = some (.cells #[.int .i64 0] 38 (0, 0)) := by rw [hW]; exact blk_new (by simp)
  clear hW
  refine (callsIn_wide.2 (scheck_any S vf vt vn vs s W (HS.out.below hb0))).mono ?_
  rw [HC.out]
  rintro e w1 ⟨rfl, hb⟩
  have h0' := blk_below hb (lt_of_blk h0) h0; have h1' := blk_below hb (lt_of_blk h1) h1; have h2' := blk_below hb (lt_of_blk h2) h2; have h3' := blk_below hb (lt_of_blk h3) h3; have h4' := blk_below hb (lt_of_blk h4) h4
  have HB1 := Lib.hid (hb0.trans (hb.mono hb0.size))
  have HM1 := Lib.hid (HVr.out.m.old HB1.out)
  have hd : RdAt0 w.heap.size vf vt vn vs t w1 := ⟨h0', h1', h2', h3', h4'⟩
  have HD := Lib.hid hd
  have c1 : ((w1.alloc (.cells #[.slice none 0 0] 58)).alloc (.cells #[.int .i64 0] 3)).cell? ⟨w.heap.size + 1, 0, none⟩ = some (strV t) := cell1R (blk_old (blk_old h1'))
  have dz : ((0 : Int) != 0) = false := rfl
  clear hb hb0 h0 h1 h2 h3 h4 h0' h1' h2' h3' h4' hd
  gi_wp2
  refine ⟨trivial, callsIn_world fun W2 hW2 => ?_⟩
  have hb2 : Below w1.heap.size w1 W2 := by rw [hW2]; exact ((Below.refl w1.heap.size w1).alloc (Nat.le_refl _) _).alloc (by simp) _
  have hl2 : W2.heap[w1.heap.size]? = some (.cells #[.slice none 0 0] 58 (0, 0)) := by rw [hW2]; exact blk_old (blk_new rfl)
  have hn2 : W2.heap[w1.heap.size + 1]? = some (.cells #[.int .i64 0] 3 (0, 0)) := by rw [hW2]; exact blk_new (by simp)
  have z2 : W2.heap.size = w1.heap.size + 2 := by rw [hW2]; simp
  clear hW2 c1
  refine (callsIn_wide.2 (rows_any t W2)).mono ?_
  rintro e w3 ⟨rfl, hw3⟩
  have hb3 : Below w1.heap.size w1 w3 := by rw [hw3]; exact hb2.alloc hb2.size _
  have hd3 : RdCells w.heap.size w1.heap.size vf vt vn vs t (.slice none 0 0) 0 w3 := by
    have h1 := (HD.out.below hb2)
    rw [hw3]
    exact ⟨blk_old h1.s, blk_old h1.t, blk_old h1.r1, blk_old h1.r2, blk_old h1.r3, blk_old hl2, blk_old hn2⟩
  have hx3 : w3.heap[w1.heap.size + 2]? = some (.cells #[strV t] 9 (0, 0)) := by rw [hw3]; exact blk_new z2.symm
  have HB3 := Lib.hid (HB1.out.trans (hb3.mono HB1.out.size)); have HM3 := Lib.hid (HM1.out.old hb3); have HD3 := Lib.hid hd3; have HX3 := Lib.hid hx3
  rw [z2]
  have zk : w.heap.size + 1 + 1 + 1 + 1 < w1.heap.size := lt_of_blk HD.out.r3
  clear hb2 hl2 hn2 hb3 hd3 hx3 hw3 z2
  gi_wp2
  refine wpIn_range_box rfl (by omega) (gf := 113) (lb := #[.pointer (some ⟨w1.heap.size + 2, 0, none⟩)]) rfl trivial (enters_of Tryz.func113 (by kernel_rfl) rfl)
    (rows1_box 5 (by decide) (w1.heap.size + 2) t w3 (by omega) HM3.out HX3.out (by have := HM1.out.lt; omega)) (lt_of_blk HX3.out)
    KeepsRow.trans (KeepsRow.put (lt_of_blk HX3.out) HM3.out.lt) (fun _ => rfl)
    (IRead w w.heap.size w1.heap.size vf vt vn vs s t) (IRead.own (Nat.le_trans HB3.out.size (Nat.le_refl _))) (IRead.box (by omega) (by omega)) ⟨_, [], 0, HD3.out, RecsIn.nil _ _, HB3.out, lt_of_blk HX3.out, by simp, by omega, fun q hq => by rw [hq]; rfl⟩
    (fun x => { tmps := #[.agg #[vf, vt, vn, vs], strV t, .pointer (some ⟨w.heap.size, 0, none⟩), .pointer (some ⟨w.heap.size + 1, 0, none⟩), .pointer (some ⟨w.heap.size + 1 + 1, 0, none⟩), .pointer (some ⟨w.heap.size + 1 + 1 + 1, 0, none⟩), .pointer (some ⟨w.heap.size + 1 + 1 + 1 + 1, 0, none⟩), .int .i64 0, .pointer (some ⟨w1.heap.size, 0, none⟩), .pointer (some ⟨w1.heap.size + 1, 0, none⟩), strV x.1, strV x.2, undef, undef, .agg #[vf, vt, vn, vs], .int .i64 0, .int .i64 0, .bool false, undef, strV t, .func (.func 113) #[] #[.pointer (some ⟨w1.heap.size + 2, 0, none⟩)], strV x.1, strV x.2, undef, undef, undef, undef, undef, undef, undef, undef, undef, undef, undef, undef, undef, undef, undef, undef, undef, undef, undef, undef, undef, undef, undef, undef, undef, undef, undef, undef, undef, undef, undef, undef, undef, undef, undef, undef, undef, undef, undef, undef], defers := [] }) ?assign ?body ?done ?stop
  case assign =>
    intro l x W K hK
    dsimp only [encsR]
    gi_wp2
    exact hK
  case body =>
    rintro l pre ⟨row, rest⟩ W ⟨lv, C, at', h1, h2, h3, h4, h5, h6, h7⟩ hpre
    obtain ⟨al, cl_, rfl⟩ := own_slice h2.own
    obtain ⟨q, hq⟩ := hpre
    have hq' : rowsL t = pre ++ (row, rest) :: q := by rw [← hq]; simp
    have heq := h7 ((row, rest) :: q) hq'
    have hmem : (row, rest) ∈ rowsL t := by rw [hq']; simp
    have hsh := HSh.out _ hmem
    have hrow : row.length ≤ t.length := by simpa using hsh.1
    have hrest : rest.length ≤ t.length := by simpa using hsh.2
    have HEq := Lib.hid heq; have HQ := Lib.hid hq'; have H1 := Lib.hid h1; have H2 := Lib.hid h2; have H3 := Lib.hid h3
    have mixed : Tryz.prog.follows .mixedOrders = true := by kernel_rfl
    have n1 : w.heap.size + 1 + 1 ≠ w.heap.size + 1 + 1 + 1 := by omega
    have n2 : w.heap.size + 1 + 1 ≠ w.heap.size + 1 + 1 + 1 + 1 := by omega
    have n3 : w.heap.size + 1 + 1 + 1 ≠ w.heap.size + 1 + 1 + 1 + 1 := by omega
    clear h1 h2 h3 h7 hq hq' heq hmem hsh
    dsimp only
    gi_wp2
    refine ⟨trivial, (CallsIn.inRound l (callsIn_wide.2 (prefix_any row [101, 110, 100, 32] W (by omega) (by decide)))).mono ?_⟩
    rintro e W2 ⟨rfl, hb⟩
    have HK2 := Lib.hid (keeps_below hb)
    have H1b := Lib.hid (H1.out.below' hb); have H2b := Lib.hid (H2.out.below hb); have H3b := Lib.hid (H3.out.trans (hb.mono H3.out.size))
    have h4b : w1.heap.size + 2 < W2.heap.size := Nat.lt_of_lt_of_le h4 hb.size
    have HKx := Lib.hid (keepsRow_below (x := w1.heap.size + 2) hb h4 HM1.out.lt (by have := HM1.out.lt; omega))
    clear hb H1 H2 H3 h4
    obtain ⟨E, hE⟩ : ∃ E, prefB row [101, 110, 100, 32] = E := ⟨_, rfl⟩
    have hEe : isEnd row = E := hE
    rw [hE]
    have cl := cell1R H1b.out.l
    cases E
    · have heq := HEq.out
      rw [readA, hEe, if_neg (by simp)] at heq
      have HEq2 := Lib.hid heq
      obtain ⟨s0, s1, s2, s3⟩ := cellsS H1b.out.s
      clear HEq heq hE hEe
      gi_wp2
      have htk := rtake_any S (fun b => w.heap.size ≤ b) vf vt vn vs (.slice al C.length cl_) s (C.map pR) row W2 (HS.out.below H3b.out) HC.out (H2b.out.vec (by omega)) (by simp; omega) (HVr.out.old H3b.out) (HDb.out.old H3b.out) (by omega)
      unfold RecParsed at htk
      obtain ⟨⟨r1, er⟩, hp⟩ : ∃ p, takeN s (C.map pR) row = p := ⟨_, rfl⟩
      have hlim : C.length < 64 ∨ er ≠ 0 := by
        by_cases h64 : C.length < 64
        · exact .inl h64
        · refine .inr fun he => ?_
          have := takeN_full (s := s) (l := C.map pR) (row := row) (by rw [List.length_map]; omega) (by rw [List.length_map]; omega)
          rw [hp] at this
          exact this he
      have heq := HEq2.out
      rw [hp] at htk heq
      dsimp only at htk heq
      have HEq3 := Lib.hid heq
      clear HEq2 heq hp
      refine ⟨trivial, (CallsIn.inRound l (callsIn_wide.2 htk)).mono ?_⟩
      rintro e W3 ⟨_, rfl, ⟨sv, rfl, hv⟩, hb⟩
      obtain ⟨av, cv, rfl⟩ := hv.slice
      have HK3 := Lib.hid (HK2.out.trans (keeps_below hb))
      have H1 := Lib.hid (H1b.out.below' hb); have H2 := Lib.hid (H2b.out.below hb); have H3 := Lib.hid (H3b.out.trans (hb.mono H3b.out.size))
      have HKy := Lib.hid (HKx.out.trans (keepsRow_below (x := w1.heap.size + 2) hb h4b HM1.out.lt (by have := HM1.out.lt; omega)))
      have HVv := Lib.hid hv
      have z23 := hb.size
      have HOff := Lib.hid (show ∀ g, (Value.slice al C.length cl_).ownBlock = some g → w1.heap.size + 2 < g ∧ g < W2.heap.size from fun g e => by
        rcases H2b.out.own.2 with ⟨h0, _⟩ | ⟨g', cap, cur, hv, hg, hh, _⟩
        · rw [h0] at e; simp [Value.ownBlock] at e
        · rw [hv] at e
          have : g' = g := by simpa [Value.ownBlock] using e
          subst this
          exact ⟨by omega, lt_of_blk hh⟩)
      clear hb htk H1b H2b H3b HK2 HKx s0 s1 s2 s3 cl hv
      by_cases he : er = 0
      · subst he
        have hC : C.length < 64 := by rcases hlim with h | h; exact h; exact absurd rfl h
        have hres := HEq3.out
        rw [if_pos rfl] at hres
        have HRes := Lib.hid hres
        have dz : ((0 : Int) != 0) = false := rfl
        clear hres HEq3 hlim
        gi_wp2
        refine wpIn_world (fun V hV => ?_)
        have hbA : Below W3.heap.size W3 V := by rw [hV]; exact (Below.refl _ _).alloc (Nat.le_refl _) _
        have hx : V.heap[W3.heap.size]? = some (.cells #[.int .i64 r1.id, .int .i64 r1.ver, .slice av r1.vals.length cv] 48 (0, 0)) := by rw [hV]; exact blk_new rfl
        have H1a := Lib.hid (H1.out.below' hbA); have H2a := Lib.hid (H2.out.below hbA); have H3a := Lib.hid (H3.out.trans (hbA.mono H3.out.size))
        have HK4 := Lib.hid (HK3.out.trans (keeps_below hbA))
        have z3k : w1.heap.size + 2 < W3.heap.size := by omega
        have HKz := Lib.hid (HKy.out.trans (keepsRow_below (x := w1.heap.size + 2) hbA z3k HM1.out.lt (by have := HM1.out.lt; omega)))
        have HVx := Lib.hid (HVv.out.below hbA)
        have cl := cell1R H1a.out.l; have ct := cell1R H1a.out.t
        obtain ⟨x0, x1, x2⟩ := cells3 hx
        have lk := lt_of_blk H1a.out.l; have lx := lt_of_blk hx; have lt' := lt_of_blk H1a.out.t
        have hsub : IntKind.i64.wrap ((t.length : Int) - (rest.length : Int)) = ((t.length - rest.length : Nat) : Int) := by rw [IntKind.wrap_i64]; omega
        obtain ⟨m, hm⟩ : ∃ m, t.length - rest.length = m := ⟨_, rfl⟩
        rw [hm] at hsub
        have hmt : m ≤ t.length := by omega
        have HRs := Lib.hid (show readA s t.length [] 0 (rowsL t) = readA s t.length (C.map pR ++ [r1]) m q by rw [← hm]; exact HRes.out)
        clear hbA hV H1 H2 H3 HK3 HKy HVv hx
        have bD : Below V.heap.size V V.drew := (Below.refl _ _).drew
        have clD : V.drew.cell? ⟨w1.heap.size, 0, none⟩ = some (.slice al C.length cl_) := cl
        have bB := bD.alloc bD.size (.cells #[.int .i64 r1.id, .int .i64 r1.ver, .slice av r1.vals.length cv] 48)
        have clB := (bB.cell (p := ⟨w1.heap.size, 0, none⟩) lk).trans cl
        refine wpIn_region_k (by kernel_rfl) (by kernel_rfl) (fun w' => w'.cell? ⟨W3.heap.size, 0, none⟩ = some (.int .i64 r1.id) ∧ w'.cell? ⟨W3.heap.size, 1, none⟩ = some (.int .i64 r1.ver) ∧ w'.cell? ⟨W3.heap.size, 2, none⟩ = some (.slice av r1.vals.length cv) ∧ w'.cell? ⟨w.heap.size + 1, 0, none⟩ = some (strV t)) 10 (⟨x0, x1, x2, ct⟩) (fun hHeld => ?_)
        refine tK 1 (h := ?_)
        try simp only [List.getElem_toArray, List.getElem_cons_zero, List.getElem_cons_succ, Act.put, List.setIfInBounds_toArray, List.set_cons_zero, List.set_cons_succ]
        refine tK 4 (h := ?_)
        try simp only [List.getElem_toArray, List.getElem_cons_zero, List.getElem_cons_succ, Act.put, List.setIfInBounds_toArray, List.set_cons_zero, List.set_cons_succ]
        refine tK 5 (h := ?_)
        try simp only [List.getElem_toArray, List.getElem_cons_zero, List.getElem_cons_succ, Act.put, List.setIfInBounds_toArray, List.set_cons_zero, List.set_cons_succ]
        refine tK 6 (h := ?_)
        try simp only [List.getElem_toArray, List.getElem_cons_zero, List.getElem_cons_succ, Act.put, List.setIfInBounds_toArray, List.set_cons_zero, List.set_cons_succ]
        refine tK 7 (h := ?_)
        try simp only [List.getElem_toArray, List.getElem_cons_zero, List.getElem_cons_succ, Act.put, List.setIfInBounds_toArray, List.set_cons_zero, List.set_cons_succ]
        refine tK 8 (h := ?_)
        try simp only [List.getElem_toArray, List.getElem_cons_zero, List.getElem_cons_succ, Act.put, List.setIfInBounds_toArray, List.set_cons_zero, List.set_cons_succ]
        refine wpAnyK_ready (rs := [0, 2]) (by kernel_rfl) (by simp) ?_
        refine AllReadyK.cons rfl (fun K hK => ?_) (AllReadyK.cons rfl (fun K hK => ?_) AllReadyK.nil)
        focus
          go_simp
          refine shutK hK (⟨(bD.cell (p := ⟨W3.heap.size, 0, none⟩) lx).trans x0, (bD.cell (p := ⟨W3.heap.size, 1, none⟩) lx).trans x1, (bD.cell (p := ⟨W3.heap.size, 2, none⟩) lx).trans x2, (bD.cell (p := ⟨w.heap.size + 1, 0, none⟩) lt').trans ct⟩) (fun hHeld => ?_)
          clear hK K
          try simp only [List.getElem_toArray, List.getElem_cons_zero, List.getElem_cons_succ, Act.put, List.setIfInBounds_toArray, List.set_cons_zero, List.set_cons_succ]
          refine wpAnyK_ready (rs := [2]) (by kernel_rfl) (by simp) ?_
          refine AllReadyK.cons rfl (fun K hK => ?_) AllReadyK.nil
          go_simp
          skip
          refine shutK hK (⟨(bB.cell (p := ⟨W3.heap.size, 0, none⟩) lx).trans x0, (bB.cell (p := ⟨W3.heap.size, 1, none⟩) lx).trans x1, (bB.cell (p := ⟨W3.heap.size, 2, none⟩) lx).trans x2, (bB.cell (p := ⟨w.heap.size + 1, 0, none⟩) lt').trans ct⟩) (fun hHeld => ?_)
          clear hK K
          try simp only [List.getElem_toArray, List.getElem_cons_zero, List.getElem_cons_succ, Act.put, List.setIfInBounds_toArray, List.set_cons_zero, List.set_cons_succ]
        rotate_left 1
        focus
          go_simp
          refine shutK hK (⟨(bB.cell (p := ⟨W3.heap.size, 0, none⟩) lx).trans x0, (bB.cell (p := ⟨W3.heap.size, 1, none⟩) lx).trans x1, (bB.cell (p := ⟨W3.heap.size, 2, none⟩) lx).trans x2, (bB.cell (p := ⟨w.heap.size + 1, 0, none⟩) lt').trans ct⟩) (fun hHeld => ?_)
          clear hK K
          try simp only [List.getElem_toArray, List.getElem_cons_zero, List.getElem_cons_succ, Act.put, List.setIfInBounds_toArray, List.set_cons_zero, List.set_cons_succ]
          refine wpAnyK_ready (rs := [0]) (by kernel_rfl) (by simp) ?_
          refine AllReadyK.cons rfl (fun K hK => ?_) AllReadyK.nil
          go_simp
          skip
          refine shutK hK (⟨(bB.cell (p := ⟨W3.heap.size, 0, none⟩) lx).trans x0, (bB.cell (p := ⟨W3.heap.size, 1, none⟩) lx).trans x1, (bB.cell (p := ⟨W3.heap.size, 2, none⟩) lx).trans x2, (bB.cell (p := ⟨w.heap.size + 1, 0, none⟩) lt').trans ct⟩) (fun hHeld => ?_)
          clear hK K
          try simp only [List.getElem_toArray, List.getElem_cons_zero, List.getElem_cons_succ, Act.put, List.setIfInBounds_toArray, List.set_cons_zero, List.set_cons_succ]
        all_goals
          have HOw := Lib.hid ((H2a.out.below bB).own)
          have HRd := Lib.hid (show Reads (V.drew.alloc (.cells #[.int .i64 r1.id, .int .i64 r1.ver, .slice av r1.vals.length cv] 48)) 3 (.slice (some ⟨V.heap.size, 0, none⟩) 1 1) 1 ([(⟨r1.id, r1.ver, av, r1.vals.length, cv, r1.vals⟩ : RV)].flatMap encRV) from reads_block (size := 3) (xs := [(⟨r1.id, r1.ver, av, r1.vals.length, cv, r1.vals⟩ : RV)].flatMap encRV) (t := 48) (fr := (0, 0)) (blk_new rfl) rfl)
          refine wpAnyK_ready (rs := [3]) (by kernel_rfl) (by simp) ?_
          refine AllReadyK.cons rfl (fun K hK => ?_) AllReadyK.nil
          refine wp_append_reads (.tmp 52) (.tmp 54) 58 (by rfl) (w1.heap.size + 2 + 1) 48 (.agg #[.int .i64 0, .int .i64 0, .slice none 0 0]) 3 40 Tryz.underlying58 infoR rfl (by decide) (.slice al C.length cl_) C.length (C.flatMap encRV) (by rfl) HOw.out _ 1 _ (by rfl) HRd.out (fun u hu => one_encRV (⟨r1.id, r1.ver, av, r1.vals.length, cv, r1.vals⟩ : RV) u (by simpa using hu)) (by unfold maxLen; omega) (by omega) (by simp; omega) ?_; intro v' w' ho' hg hat; have HG := Lib.hid hg; have HO2 := Lib.hid ho'; have HAt := Lib.hid hat
          refine shutK hK (⟨(cell_grown (x := W3.heap.size) (i := 0) hg (by have := bB.size; simp; omega) (fun e => (by have h1 := HOff.out _ e; omega))).trans ((bB.cell (p := ⟨W3.heap.size, 0, none⟩) lx).trans x0), (cell_grown (x := W3.heap.size) (i := 1) hg (by have := bB.size; simp; omega) (fun e => (by have h1 := HOff.out _ e; omega))).trans ((bB.cell (p := ⟨W3.heap.size, 1, none⟩) lx).trans x1), (cell_grown (x := W3.heap.size) (i := 2) hg (by have := bB.size; simp; omega) (fun e => (by have h1 := HOff.out _ e; omega))).trans ((bB.cell (p := ⟨W3.heap.size, 2, none⟩) lx).trans x2), (cell_grown (x := w.heap.size + 1) (i := 0) hg (by have := bB.size; simp; omega) (fun e => (by have h1 := HOff.out _ e; omega))).trans ((bB.cell (p := ⟨w.heap.size + 1, 0, none⟩) lt').trans ct)⟩) (fun hHeld => ?_)
          clear hK K
          try simp only [List.getElem_toArray, List.getElem_cons_zero, List.getElem_cons_succ, Act.put, List.setIfInBounds_toArray, List.set_cons_zero, List.set_cons_succ]
          obtain ⟨a2, c2, rfl⟩ := own_slice ho'
          have zV2 : (V.drew.alloc (.cells #[.int .i64 r1.id, .int .i64 r1.ver, .slice av r1.vals.length cv] 48)).heap.size = V.heap.size + 1 := World.size_alloc V.drew _
          have zV3 : (V.alloc (.cells #[.int .i64 r1.id, .int .i64 r1.ver, .slice av r1.vals.length cv] 48)).drew.heap.size = V.heap.size + 1 := World.size_alloc V _
          have grow : ∀ x o, x < V.heap.size → (∀ g, (Value.slice al C.length cl_).ownBlock = some g → g ≠ x) → V.heap[x]? = some o → w'.heap[x]? = some o := fun x o hx hn ho => (hg.block x (by omega) (fun e => hn x e.symm rfl)).trans (blk_old (w := V.drew) ho)
          have gk : ∀ x, x ≤ w1.heap.size + 2 → ∀ g, (Value.slice al C.length cl_).ownBlock = some g → g ≠ x := fun x hx g e => by have := HOff.out g e; omega
          have Q1 : RdCells w.heap.size w1.heap.size vf vt vn vs t (.slice al C.length cl_) at' w' := H1a.out.same fun x o hx ho _ => grow x o (lt_of_blk ho) (gk x (by omega)) ho
          have ck := cell1R Q1.l; have cn := cell1R Q1.n
          have fk := frozen_of_row _ _ 0 _ _ Q1.l; have fn := frozen_of_row _ _ 0 _ _ Q1.n
          have HQ1 := Lib.hid Q1; have HGr := Lib.hid grow
          clear Q1 ho' hg hat grow gk
          refine wpAnyK_ready (rs := [9]) (by kernel_rfl) (by simp) ?_
          refine AllReadyK.cons rfl (fun K hK => ?_) AllReadyK.nil
          go_simp
          refine shutK hK (⟨(cell_far (by show W3.heap.size ≠ w1.heap.size; omega)).trans hHeld.1, (cell_far (by show W3.heap.size ≠ w1.heap.size; omega)).trans hHeld.2.1, (cell_far (by show W3.heap.size ≠ w1.heap.size; omega)).trans hHeld.2.2.1, (cell_far (by show w.heap.size + 1 ≠ w1.heap.size; omega)).trans hHeld.2.2.2⟩) (fun hHeld => ?_)
          clear hK K
          try simp only [List.getElem_toArray, List.getElem_cons_zero, List.getElem_cons_succ, Act.put, List.setIfInBounds_toArray, List.set_cons_zero, List.set_cons_succ]
          refine wpAnyK_ready (rs := [10]) (by kernel_rfl) (by simp) ?_
          refine AllReadyK.cons rfl (fun K hK => ?_) AllReadyK.nil
          go_simp
          refine shutK_off hK (by decide) ?_
          clear hK K
          try simp only [List.getElem_toArray, List.getElem_cons_zero, List.getElem_cons_succ, Act.put, List.setIfInBounds_toArray, List.set_cons_zero, List.set_cons_succ]
          refine wpAnyK_done (by kernel_rfl) ?_ _
          dsimp only [OnlyN]
          gi_wp2
          have hw2 := HG.out.size
          have hcellsG : ∀ (j : Nat) (o : Obj), (Value.slice al C.length cl_).ownBlock = some j → (V.drew.alloc (.cells #[.int .i64 r1.id, .int .i64 r1.ver, .slice av r1.vals.length cv] 48)).heap[j]? = some o → o.isCells = true := fun j o e ho => by
            rcases HOw.out.2 with ⟨h0, _⟩ | ⟨g', cap, cur, hv, hg', hh, _⟩
            · rw [h0] at e; simp [Value.ownBlock] at e
            · rw [hv] at e
              have : g' = j := by simpa [Value.ownBlock] using e
              subst this
              rw [hh] at ho; cases ho; rfl
          have KO : KeepsOthers W ((w'.setCell ⟨w1.heap.size, 0, none⟩ (.slice a2 (C.length + 1) c2)).setCell ⟨w1.heap.size + 1, 0, none⟩ (.int .i64 m)) :=
            ((((HK4.out.trans (KeepsOthers.drew V)).trans (KeepsOthers.alloc V.drew _)).trans (KeepsOthers.of_grownBy HG.out hcellsG)).trans (KeepsOthers.setCell _ _ _)).trans (KeepsOthers.setCell _ _ _)
          have hk2 : w1.heap.size + 2 < V.heap.size := by omega
          have KR : KeepsRow (w1.heap.size + 2) W ((w'.setCell ⟨w1.heap.size, 0, none⟩ (.slice a2 (C.length + 1) c2)).setCell ⟨w1.heap.size + 1, 0, none⟩ (.int .i64 m)) := by
            refine KeepsRow.trans HKz.out ⟨?_, fun mm hm => ?_⟩
            · obtain ⟨o, ho⟩ : ∃ o, V.heap[w1.heap.size + 2]? = some o := ⟨_, Array.getElem?_eq_getElem hk2⟩
              rw [ho]
              exact blk_far (blk_far (HGr.out _ _ hk2 (fun g e => by have := HOff.out g e; omega) ho) (by show w1.heap.size + 2 ≠ w1.heap.size; omega)) (by show w1.heap.size + 2 ≠ w1.heap.size + 1; omega)
            · have hgl := HM1.out.lt
              obtain ⟨o, ho⟩ : ∃ o, V.heap[Tryz.laysM145_ren.g 1]? = some o := ⟨_, Array.getElem?_eq_getElem (by omega)⟩
              have h9 := blk_far (a := ⟨w1.heap.size + 1, 0, none⟩) (v := .int .i64 m) (blk_far (a := ⟨w1.heap.size, 0, none⟩) (v := .slice a2 (C.length + 1) c2) (HGr.out _ _ (by omega) (fun g e => by have := HOff.out g e; omega) ho) (by show _ ≠ w1.heap.size; omega)) (by show _ ≠ w1.heap.size + 1; omega)
              exact (World.cell?_of_block (w := V) (a := ⟨Tryz.laysM145_ren.g 1, 0, none⟩) (h9.trans ho.symm)).trans hm
          have hbw : Below w.heap.size w w' := ((H3a.out.trans (bB.mono H3a.out.size)).grown HG.out (by have := H3a.out.size; omega) (fun g e => by have := HOff.out g e; omega))
          have hrecs : RecsIn (w1.heap.size + 2) (.slice a2 (C.length + 1) c2) (C ++ [(⟨r1.id, r1.ver, av, r1.vals.length, cv, r1.vals⟩ : RV)]) w' := by
            have hown' : ∀ b, b < V.heap.size → (some b ≠ (Value.slice al C.length cl_).ownBlock) → some b ≠ (Value.slice a2 (C.length + 1) c2).ownBlock := fun b hb hn => by
              rcases HAt.out with h | h | h
              · rw [h]; simp
              · rw [← h]; exact hn
              · rw [h]; simp; omega
            refine ⟨by rw [List.length_append, List.flatMap_append]; exact HO2.out, fun x hx => ?_⟩
            rcases List.mem_append.1 hx with hx | hx
            · exact (H2a.out.vals x hx).move (by omega) fun b hb hs => ⟨by
                obtain ⟨o, ho⟩ : ∃ o, V.heap[b]? = some o := ⟨_, Array.getElem?_eq_getElem hb⟩
                rw [ho]; exact HGr.out b o hb (fun g e eg => hs.2 (by rw [← eg, e])) ho, hs.1, hown' b hb hs.2⟩
            · simp at hx; subst hx
              exact HVx.out.move (by omega) fun b hb hs => by
                have hs' : W2.heap.size ≤ b := hs
                have hne : some b ≠ (Value.slice al C.length cl_).ownBlock := fun e => by have := HOff.out b e.symm; omega
                obtain ⟨o, ho⟩ : ∃ o, V.heap[b]? = some o := ⟨_, Array.getElem?_eq_getElem hb⟩
                exact ⟨by rw [ho]; exact HGr.out b o hb (fun g e eg => hne (by rw [← eg, e])) ho, by omega, hown' b hb hne⟩
          refine ⟨none, rfl, KO, fun _ => KR, .slice a2 (C.length + 1) c2, C ++ [(⟨r1.id, r1.ver, av, r1.vals.length, cv, r1.vals⟩ : RV)], m, ?_, ?_, ?_, ?_, by simp; omega, hmt, ?_⟩
          · exact ⟨blk_far (blk_far HQ1.out.s (by show w.heap.size ≠ w1.heap.size; omega)) (by show w.heap.size ≠ w1.heap.size + 1; omega), blk_far (blk_far HQ1.out.t (by show w.heap.size + 1 ≠ w1.heap.size; omega)) (by show w.heap.size + 1 ≠ w1.heap.size + 1; omega), blk_far (blk_far HQ1.out.r1 (by show w.heap.size + 1 + 1 ≠ w1.heap.size; omega)) (by show w.heap.size + 1 + 1 ≠ w1.heap.size + 1; omega), blk_far (blk_far HQ1.out.r2 (by show w.heap.size + 1 + 1 + 1 ≠ w1.heap.size; omega)) (by show w.heap.size + 1 + 1 + 1 ≠ w1.heap.size + 1; omega), blk_far (blk_far HQ1.out.r3 (by show w.heap.size + 1 + 1 + 1 + 1 ≠ w1.heap.size; omega)) (by show w.heap.size + 1 + 1 + 1 + 1 ≠ w1.heap.size + 1; omega),
              blk_far (blk_set (i := 0) (v := .slice a2 (C.length + 1) c2) HQ1.out.l) (by show w1.heap.size ≠ w1.heap.size + 1; omega), blk_set (i := 0) (v := .int .i64 m) (blk_far HQ1.out.n (by show w1.heap.size + 1 ≠ w1.heap.size; omega))⟩
          · exact (hrecs.far (a := ⟨w1.heap.size, 0, none⟩) (by show w1.heap.size ≤ w1.heap.size + 2; omega)).far (a := ⟨w1.heap.size + 1, 0, none⟩) (by show w1.heap.size + 1 ≤ w1.heap.size + 2; omega)
          · exact (hbw.setCell (p := ⟨w1.heap.size, 0, none⟩) (by show w.heap.size ≤ w1.heap.size; omega) _).setCell (p := ⟨w1.heap.size + 1, 0, none⟩) (by show w.heap.size ≤ w1.heap.size + 1; omega) _
          · simp [World.setCell]; omega
          · intro q' hq'
            have hqq : q' = q := by
              have h9 := HQ.out
              rw [hq', List.append_assoc] at h9
              simpa using List.append_cancel_left h9
            rw [hqq, List.map_append]
            exact HRs.out
      · have dne : (er != 0) = true := by simpa using he
        have hres := HEq3.out
        rw [if_neg he] at hres
        have cl3 := cell1R H1.out.l; have cn3 := cell1R H1.out.n; have cr1 := cell1R H1.out.r1; have cr2 := cell1R H1.out.r2; have cr3 := cell1R H1.out.r3
        have hbA : Below W3.heap.size W3 (W3.alloc (.cells #[.int .i64 r1.id, .int .i64 r1.ver, .slice av r1.vals.length cv] 48)) := (Below.refl _ _).alloc (Nat.le_refl _) _
        have H1a := Lib.hid (H1.out.below' hbA); have H2a := Lib.hid (H2.out.below hbA); have H3a := Lib.hid (H3.out.trans (hbA.mono H3.out.size))
        have HK4 := Lib.hid (HK3.out.trans (keeps_below hbA))
        clear hbA HEq3 he hlim
        obtain ⟨g1, g2, g3, g4, g5⟩ := read_out H1a.out H2a.out H3a.out (Nat.le_refl _) zk (at' : Int) er
        have hI : IRead w w.heap.size w1.heap.size vf vt vn vs s t (some .ret) (pre ++ [(row, rest)]) _ := ⟨rfl, _, C, _, _, g1, g2, g3, g4, g5, hres⟩
        have HI := Lib.hid hI
        clear hI g1 g2 g3 g4 g5 cl3 cn3 cr1 cr2 cr3
        have cl3 := cell1R H1a.out.l; have cn3 := cell1R H1a.out.n; have cr1 := cell1R H1a.out.r1; have cr2 := cell1R H1a.out.r2; have cr3 := cell1R H1a.out.r3
        have fr1 := frozen_of_row _ _ 0 _ _ H1a.out.r1; have fr2 := frozen_of_row _ _ 0 _ _ H1a.out.r2; have fr3 := frozen_of_row _ _ 0 _ _ H1a.out.r3
        gi_wp2
        gi_region_with_o (fail)
        all_goals gi_wp2
        all_goals exact ⟨some .ret, rfl, ((((HK4.out).trans (KeepsOthers.setCell _ _ _)).trans (KeepsOthers.setCell _ _ _)).trans (KeepsOthers.setCell _ _ _)).trans (KeepsOthers.drew _), (fun h => nomatch h), IRead.drew HI.out⟩
    · have hit := fun w hw => itoa_any C.length (by omega) w hw
      have heq := HEq.out
      rw [readA, hEe, if_pos rfl, List.length_map] at heq
      unfold endR endS at heq
      obtain ⟨d, hd⟩ : ∃ d, Lib.decDigits C.length = d := ⟨_, rfl⟩
      have hdl : d.length ≤ 7 := by rw [← hd]; exact dec_most (k := 7) (by decide) (by omega)
      rw [hd] at hit heq
      have HIt := Lib.hid hit; have HEq2 := Lib.hid heq
      clear HEq heq hE hEe hit hd
      gi_wp2
      refine ⟨trivial, (CallsIn.inRound l (callsIn_wide.2 (HIt.out W2 (HVr.out.old H3b.out)))).mono ?_⟩
      rintro e W3 ⟨rfl, hb⟩
      have HK3 := Lib.hid (HK2.out.trans (keeps_below hb))
      have H1 := Lib.hid (H1b.out.below' hb); have H2 := Lib.hid (H2b.out.below hb); have H3 := Lib.hid (H3b.out.trans (hb.mono H3b.out.size))
      have cl3 := cell1R H1.out.l; have cn3 := cell1R H1.out.n; have ct3 := cell1R H1.out.t; have cr1 := cell1R H1.out.r1; have cr2 := cell1R H1.out.r2; have cr3 := cell1R H1.out.r3
      have fr1 := frozen_of_row _ _ 0 _ _ H1.out.r1; have fr2 := frozen_of_row _ _ 0 _ _ H1.out.r2; have fr3 := frozen_of_row _ _ 0 _ _ H1.out.r3
      have hn1 : ¬ 9223372036854775807 < 4 + d.length := by omega
      clear hb cl H1b H2b H3b HK2
      by_cases hrw : row = [101, 110, 100, 32] ++ d
      · by_cases hre : rest = []
        · have hres := HEq2.out
          rw [if_pos ⟨hrw, hre⟩] at hres
          have d1 : (row == 101 :: 110 :: 100 :: 32 :: d) = true := by simp [hrw]
          have d2 : (rest == []) = true := by simp [hre]
          have d3 : rest.isEmpty = true := by simp [hre]
          clear HEq2 hrw hre
          obtain ⟨g1, g2, g3, g4, g5⟩ := read_out H1.out H2.out H3.out (Nat.le_refl _) zk (t.length : Int) 0
          have hI : IRead w w.heap.size w1.heap.size vf vt vn vs s t (some .ret) (pre ++ [(row, rest)]) _ := ⟨rfl, _, C, _, _, g1, g2, g3, g4, g5, hres⟩
          have HI := Lib.hid hI
          clear hI g1 g2 g3 g4 g5
          gi_wp2
          gi_region_with_o (fail)
          all_goals gi_wp2
          all_goals exact ⟨some .ret, rfl, ((((HK3.out).trans (KeepsOthers.setCell _ _ _)).trans (KeepsOthers.setCell _ _ _)).trans (KeepsOthers.setCell _ _ _)).trans (KeepsOthers.drew _), (fun h => nomatch h), IRead.drew HI.out⟩
        · have hres := HEq2.out
          rw [if_neg (fun h => hre h.2)] at hres
          have d1 : (rest == []) = false := by simpa using hre
          have d2 : rest.isEmpty = false := by simpa using hre
          have d3 : (row == 101 :: 110 :: 100 :: 32 :: d) = true := by simp [hrw]
          clear HEq2 hre hrw
          obtain ⟨g1, g2, g3, g4, g5⟩ := read_out H1.out H2.out H3.out (Nat.le_refl _) zk (at' : Int) 14
          have hI : IRead w w.heap.size w1.heap.size vf vt vn vs s t (some .ret) (pre ++ [(row, rest)]) _ := ⟨rfl, _, C, _, _, g1, g2, g3, g4, g5, hres⟩
          have HI := Lib.hid hI
          clear hI g1 g2 g3 g4 g5
          gi_wp2
          gi_region_with_o (fail)
          all_goals gi_wp2
          all_goals exact ⟨some .ret, rfl, ((((HK3.out).trans (KeepsOthers.setCell _ _ _)).trans (KeepsOthers.setCell _ _ _)).trans (KeepsOthers.setCell _ _ _)).trans (KeepsOthers.drew _), (fun h => nomatch h), IRead.drew HI.out⟩
      · have hres := HEq2.out
        rw [if_neg (fun h => hrw h.1)] at hres
        have d1 : (row == 101 :: 110 :: 100 :: 32 :: d) = false := by simpa using hrw
        clear HEq2 hrw
        obtain ⟨g1, g2, g3, g4, g5⟩ := read_out H1.out H2.out H3.out (Nat.le_refl _) zk (at' : Int) 14
        have hI : IRead w w.heap.size w1.heap.size vf vt vn vs s t (some .ret) (pre ++ [(row, rest)]) _ := ⟨rfl, _, C, _, _, g1, g2, g3, g4, g5, hres⟩
        have HI := Lib.hid hI
        clear hI g1 g2 g3 g4 g5
        gi_wp2
        gi_region_with_o (fail)
        all_goals gi_wp2
        all_goals exact ⟨some .ret, rfl, ((((HK3.out).trans (KeepsOthers.setCell _ _ _)).trans (KeepsOthers.setCell _ _ _)).trans (KeepsOthers.setCell _ _ _)).trans (KeepsOthers.drew _), (fun h => nomatch h), IRead.drew HI.out⟩
  case done =>
    rintro D W hD ⟨lv, C, at', h1, h2, h3, h4, h5, h6, h7⟩ hK
    obtain ⟨al, cl_, rfl⟩ := own_slice h2.own
    have heq : readA s t.length [] 0 (rowsL t) = (C.map pR, at', 15) := h7 [] (by simp)
    have hPe : P = (C.map pR, at', 15) := by rw [← HP.out]; exact heq
    have cl := cell1R h1.l; have cn := cell1R h1.n; have cr1 := cell1R h1.r1; have cr2 := cell1R h1.r2; have cr3 := cell1R h1.r3
    have fr1 := frozen_of_row _ _ 0 _ _ h1.r1; have fr2 := frozen_of_row _ _ 0 _ _ h1.r2; have fr3 := frozen_of_row _ _ 0 _ _ h1.r3
    have mixed : Tryz.prog.follows .mixedOrders = true := by kernel_rfl
    have n1 : w.heap.size + 1 + 1 ≠ w.heap.size + 1 + 1 + 1 := by omega
    have n2 : w.heap.size + 1 + 1 ≠ w.heap.size + 1 + 1 + 1 + 1 := by omega
    have n3 : w.heap.size + 1 + 1 + 1 ≠ w.heap.size + 1 + 1 + 1 + 1 := by omega
    have hPh := Lib.hid hPe; have H1 := Lib.hid h1; have H2 := Lib.hid h2; have H3 := Lib.hid h3; have HK := Lib.hid hK
    clear heq h7 h1 h2 h3 hK
    gi_wp2
    gi_region_with_o (fail)
    all_goals gi_wp2
    all_goals
      obtain ⟨g1, g2, g3, g4, g5⟩ := read_out H1.out H2.out H3.out (Nat.le_refl _) zk (at' : Int) 15
      obtain ⟨F, hF⟩ : ∃ F, ((W.setCell ⟨w.heap.size + 1 + 1, 0, none⟩ (.slice al C.length cl_)).setCell ⟨w.heap.size + 1 + 1 + 1, 0, none⟩ (.int .i64 (at' : Int))).setCell ⟨w.heap.size + 1 + 1 + 1 + 1, 0, none⟩ (.int .i64 15) = F := ⟨_, rfl⟩
      have hD2 := lt_of_blk HX3.out
      have hKF : F.heap[D]? = some (.deferred (some [])) := by rw [← hF]; exact blk_far (blk_far (blk_far HK.out (by show D ≠ w.heap.size + 1 + 1; omega)) (by show D ≠ w.heap.size + 1 + 1 + 1; omega)) (by show D ≠ w.heap.size + 1 + 1 + 1 + 1; omega)
      rw [hF] at g1 g2 g3 g4 g5 ⊢
      have hne : ∀ x, x < w1.heap.size → x ≠ D := fun x hx => by have := lt_of_blk HX3.out; omega
      have d1 : ∀ x, x < w1.heap.size → (F.drew.putObj D (.deferred none)).heap[x]? = F.heap[x]? := fun x hx => World.putObj_heap_other (hne x hx)
      have c1 : (F.drew.putObj D (.deferred none)).cell? ⟨w.heap.size + 1 + 1, 0, none⟩ = some (.slice al C.length cl_) := cell1R ((d1 _ (by omega)).trans g1)
      have c2 : (F.drew.putObj D (.deferred none)).cell? ⟨w.heap.size + 1 + 1 + 1, 0, none⟩ = some (.int .i64 at') := cell1R ((d1 _ (by omega)).trans g2)
      have c3 : (F.drew.putObj D (.deferred none)).cell? ⟨w.heap.size + 1 + 1 + 1 + 1, 0, none⟩ = some (.int .i64 15) := cell1R ((d1 _ (by omega)).trans g3)
      have hKd : F.drew.heap[D]? = some (.deferred (some [])) := hKF
      have hbD : Below w.heap.size w (F.drew.putObj D (.deferred none)) := g5.drew.trans (belowK_b (w := w) (Nat.le_refl _) F.drew D _ _ (by have := lt_of_blk HX3.out; omega) hKd rfl rfl)
      have hkD : CellsKept F (F.drew.putObj D (.deferred none)) := ⟨by simp, fun x o hx ho => by
        by_cases hxD : x = D
        · subst hxD; rw [hKF] at hx; cases hx; cases ho
        · exact (World.putObj_heap_other hxD).trans hx⟩
      refine ⟨by simp, .inl ⟨_, _, rfl, run_takeDeferred hKd, ?_⟩⟩
      refine ⟨.tuple #[.slice al C.length cl_, .int .i64 at', .int .i64 15], ?_, ⟨.slice al C.length cl_, by rw [hPh.out], by rw [hPh.out]; exact (g4.kept hkD).vec (by omega), hbD⟩⟩
      simp [results, Tryz.f24, go_sem, c1, c2, c3]
  case stop =>
    rintro D c pre W hD hpre ⟨rfl, lv, C, m, er, g1, g2, g3, hrc, hB, heq⟩ hK
    gi_wp2
    have hne : ∀ x, x < w1.heap.size → x ≠ D := fun x hx => by have := lt_of_blk HX3.out; omega
    have d1 : ∀ x, x < w1.heap.size → (W.putObj D (.deferred none)).heap[x]? = W.heap[x]? := fun x hx => World.putObj_heap_other (hne x hx)
    have c1 : (W.putObj D (.deferred none)).cell? ⟨w.heap.size + 1 + 1, 0, none⟩ = some lv := cell1R ((d1 _ (by omega)).trans g1)
    have c2 : (W.putObj D (.deferred none)).cell? ⟨w.heap.size + 1 + 1 + 1, 0, none⟩ = some (.int .i64 m) := cell1R ((d1 _ (by omega)).trans g2)
    have c3 : (W.putObj D (.deferred none)).cell? ⟨w.heap.size + 1 + 1 + 1 + 1, 0, none⟩ = some (.int .i64 er) := cell1R ((d1 _ (by omega)).trans g3)
    have hbD : Below w.heap.size w (W.putObj D (.deferred none)) := hB.trans (belowK_b (w := w) (Nat.le_refl _) W D _ _ (by have := lt_of_blk HX3.out; omega) hK rfl rfl)
    have hkD : CellsKept W (W.putObj D (.deferred none)) := ⟨by simp, fun x o hx ho => by
      by_cases hxD : x = D
      · subst hxD; rw [hK] at hx; cases hx; cases ho
      · exact (World.putObj_heap_other hxD).trans hx⟩
    refine ⟨by simp, .inl ⟨_, _, rfl, run_takeDeferred hK, ?_⟩⟩
    have hPe : P = (C.map pR, m, er) := by rw [← HP.out]; exact heq
    refine ⟨.tuple #[lv, .int .i64 m, .int .i64 er], ?_, ⟨lv, by rw [hPe], by rw [hPe]; exact (hrc.kept hkD).vec (by omega), hbD⟩⟩
    simp [results, Tryz.f24, go_sem, c1, c2, c3]
end
section
set_option maxRecDepth 100000
open Go.RowKit Cal
attribute [local go_sem] toList_mk mk_size str_append
theorem rsameD_any (S T : Nat → Prop) (va vb : Value) (A B : List (List UInt8)) (w : World) (hA : Vec w S 1 encS va A) (hB : Vec w T 1 encS vb B) (hn : A.length ≤ 1000000) (hm : B.length ≤ 1000000) :
    Calls Tryz.prog 78 #[va, vb] w fun e w' => e = .returned (.bool (decide (A = B))) ∧ Below w.heap.size w w' := by
  have h := rsame_any S T va vb A B w hA hB hn hm
  rw [show (A == B) = decide (A = B) by by_cases h : A = B <;> simp [h]] at h
  exact h
set_option maxHeartbeats 4000000 in
theorem rrsame_any (S T : Nat → Prop) (u v : Value) (a b : RecL) (w : World) (hu : Vec w S 1 encS u a.vals) (hv : Vec w T 1 encS v b.vals) (hn : a.vals.length ≤ 1000000) (hm : b.vals.length ≤ 1000000) :
    Calls Tryz.prog 34 #[.agg #[.int .i64 a.id, .int .i64 a.ver, u], .agg #[.int .i64 b.id, .int .i64 b.ver, v]] w fun e w' => e = .returned (.bool (sameR a b)) ∧ Below w.heap.size w w' := by
  obtain ⟨ua, uc, rfl⟩ := hu.slice
  obtain ⟨va, vc, rfl⟩ := hv.slice
  obtain ⟨i1, n1, A⟩ := a
  obtain ⟨i2, n2, B⟩ := b
  dsimp only at hu hv hn hm ⊢
  have HU := Lib.hid hu; have HV := Lib.hid hv
  clear hu hv
  have hq : (i1 == i2) = decide (i1 = i2) := beq_dec i1 i2
  have hq2 : (n1 == n2) = decide (n1 = n2) := beq_dec n1 n2
  cases h1 : decide (i1 = i2)
  · have e : sameR ⟨i1, n1, A⟩ ⟨i2, n2, B⟩ = false := by unfold sameR; dsimp only; rw [h1]; rfl
    rw [e]
    rw [h1] at hq
    go_enter Tryz.func34, Tryz.ntmps34
    go_wp2_with fail
    go_ret
    exact ⟨rfl, ((Below.refl w.heap.size w).alloc (Nat.le_refl _) _).alloc (by simp) _⟩
  · rw [h1] at hq
    cases h2 : decide (n1 = n2)
    · have e : sameR ⟨i1, n1, A⟩ ⟨i2, n2, B⟩ = false := by unfold sameR; dsimp only; rw [h1, h2]; rfl
      rw [e]
      rw [h2] at hq2
      go_enter Tryz.func34, Tryz.ntmps34
      go_wp2_with fail
      go_ret
      exact ⟨rfl, ((Below.refl w.heap.size w).alloc (Nat.le_refl _) _).alloc (by simp) _⟩
    · rw [h2] at hq2
      have e : sameR ⟨i1, n1, A⟩ ⟨i2, n2, B⟩ = decide (A = B) := by unfold sameR; dsimp only; rw [h1, h2]; rfl
      rw [e]
      go_enter Tryz.func34, Tryz.ntmps34
      go_wp2_with fail
      refine wp_calls_world (fun W hW => ?_)
      have hb0 : Below w.heap.size w W := by rw [hW]; exact ((Below.refl w.heap.size w).alloc (Nat.le_refl _) _).alloc (by simp) _
      clear hW
      refine (rsameD_any S T _ _ A B W (HU.out.below hb0) (HV.out.below hb0) hn hm).mono ?_
      rintro e w1 ⟨rfl, hb⟩
      go_wp2_with fail
      go_ret
      exact ⟨rfl, hb0.trans (hb.mono hb0.size)⟩

/-- two lists of records are the same -/
def sameRs (A B : List RecL) : Bool := decide (A.length = B.length) && (List.range A.length).all fun i => sameR (A.getD i noRec) (B.getD i noRec)
theorem sameRs_self (A : List RecL) : sameRs A A = true := by
  unfold sameRs
  rw [decide_eq_true rfl, Bool.true_and, List.all_eq_true]
  intro i _
  exact sameR_self _ _ rfl rfl rfl
set_option maxHeartbeats 4000000 in
theorem rsameall_any (S T : Nat → Prop) (u v : Value) (A B : List RecL) (w : World) (hu : RecsVec w S u A) (hv : RecsVec w T v B) (hn : A.length ≤ 1000000) (hm : ∀ r ∈ A, r.vals.length ≤ 1000000) (hm2 : ∀ r ∈ B, r.vals.length ≤ 1000000) :
    Calls Tryz.prog 25 #[u, v] w fun e w' => e = .returned (.bool (sameRs A B)) ∧ Below w.heap.size w w' := by
  obtain ⟨aa, ca, rfl⟩ := hu.slice
  obtain ⟨ab, cb, rfl⟩ := hv.slice
  have HU := Lib.hid hu; have HV := Lib.hid hv; have HM := Lib.hid hm; have HM2 := Lib.hid hm2
  clear hu hv hm hm2
  by_cases hl : A.length = B.length
  · have hne : ((A.length : Int) != (B.length : Int)) = false := by rw [hl]; simp
    have hne2 : (A.length != B.length) = false := by rw [hl]; simp
    have hfin : ∀ n : Bool, sameRs A B = n → Ending.returned (.bool n) = .returned (.bool (sameRs A B)) := fun n h => by rw [h]
    have HF := Lib.hid hfin; have HL := Lib.hid hl
    clear hfin hl
    go_enter Tryz.func25, Tryz.ntmps25
    go_wp2_with fail
    clear hne hne2
    go_loopw [5] (fun i wr => ∃ k : Nat, k ≤ A.length ∧ i = .int .i64 k ∧ Hid (Below w.heap.size w wr) ∧ Hid (∀ j, j < k → sameR (A.getD j noRec) (B.getD j noRec) = true)) (fun i _ => A.length - (intOf i).toNat)
    case atStart => exact ⟨0, by omega, rfl, Lib.hid (Below.refl _ _), Lib.hid fun j hj => by omega⟩
    case round =>
      obtain ⟨k, hk, rfl, HW, HE⟩ := hrel
      by_cases hlt : k < A.length
      · have hq : decide ((k : Int) < A.length) = true := by simp; omega
        have hi1 : (k : Int) < (A.length : Int) := by omega
        have hi2 : (k : Int) < (B.length : Int) := by rw [← HL.out]; omega
        have hlt2 : k < B.length := by rw [← HL.out]; exact hlt
        obtain ⟨b1, o1, id1, ver1, a1, n1, c1, vals1, e1, lb1, x0, x1, x2, hA, hva⟩ := (HU.out.below HW.out).at k hlt
        obtain ⟨b2, o2, id2, ver2, a2, n2, c2, vals2, e2, lb2, y0, y1, y2, hB, hvb⟩ := (HV.out.below HW.out).at k hlt2
        cases e1; cases e2
        have hm1 := HM.out A[k] (List.getElem_mem hlt); have hm2 := HM2.out B[k] (List.getElem_mem hlt2)
        have hgA : A.getD k noRec = ⟨id1, ver1, vals1⟩ := by rw [getD_at _ _ hlt]; exact hA
        have hgB : B.getD k noRec = ⟨id2, ver2, vals2⟩ := by rw [getD_at _ _ hlt2]; exact hB
        rw [hA] at hm1; rw [hB] at hm2
        have hcall := fun w h1 h2 => rrsame_any S T (.slice a1 n1 c1) (.slice a2 n2 c2) ⟨id1, ver1, vals1⟩ ⟨id2, ver2, vals2⟩ w h1 h2 hm1 hm2
        obtain ⟨q, hqq⟩ : ∃ q, sameR ⟨id1, ver1, vals1⟩ ⟨id2, ver2, vals2⟩ = q := ⟨_, rfl⟩
        have hqe : sameR (A.getD k noRec) (B.getD k noRec) = q := by rw [hgA, hgB]; exact hqq
        rw [hqq] at hcall
        have HC := Lib.hid hcall; have HQ := Lib.hid hqe; have HVa := Lib.hid hva; have HVb := Lib.hid hvb
        have bD : Below wr.heap.size wr wr.drew := (Below.refl _ _).drew
        clear hm1 hm2 hgA hgB hcall hqq hqe hA hB hva hvb
        cases q
        · go_wp2_with fail
          refine wp_region_noPanic ?_
          refine wp_region_held_drew (S := (fun w' => w'.cell? ⟨b1, o1 + k * 3, none⟩ = some (.int .i64 id1) ∧ w'.cell? ⟨b1, o1 + k * 3 + 1, none⟩ = some (.int .i64 ver1) ∧ w'.cell? ⟨b1, o1 + k * 3 + 2, none⟩ = some (.slice a1 n1 c1) ∧ w'.cell? ⟨b2, o2 + k * 3, none⟩ = some (.int .i64 id2) ∧ w'.cell? ⟨b2, o2 + k * 3 + 1, none⟩ = some (.int .i64 ver2) ∧ w'.cell? ⟨b2, o2 + k * 3 + 2, none⟩ = some (.slice a2 n2 c2))) (by kernel_rfl) (⟨x0, x1, x2, y0, y1, y2⟩) (fun hHeld => ?_)
          refine tH 0 (h := ?_)
          try simp only [List.getElem_toArray, List.getElem_cons_zero, List.getElem_cons_succ, Act.put, List.setIfInBounds_toArray, List.set_cons_zero, List.set_cons_succ]
          refine tH 1 (h := ?_)
          try simp only [List.getElem_toArray, List.getElem_cons_zero, List.getElem_cons_succ, Act.put, List.setIfInBounds_toArray, List.set_cons_zero, List.set_cons_succ]
          refine tH 2 (h := ?_)
          try simp only [List.getElem_toArray, List.getElem_cons_zero, List.getElem_cons_succ, Act.put, List.setIfInBounds_toArray, List.set_cons_zero, List.set_cons_succ]
          refine tH 3 (h := ?_)
          try simp only [List.getElem_toArray, List.getElem_cons_zero, List.getElem_cons_succ, Act.put, List.setIfInBounds_toArray, List.set_cons_zero, List.set_cons_succ]
          refine tH 4 (h := ?_)
          try simp only [List.getElem_toArray, List.getElem_cons_zero, List.getElem_cons_succ, Act.put, List.setIfInBounds_toArray, List.set_cons_zero, List.set_cons_succ]
          refine tH 5 (h := ?_)
          try simp only [List.getElem_toArray, List.getElem_cons_zero, List.getElem_cons_succ, Act.put, List.setIfInBounds_toArray, List.set_cons_zero, List.set_cons_succ]
          refine tH 6 (h := ?_)
          try simp only [List.getElem_toArray, List.getElem_cons_zero, List.getElem_cons_succ, Act.put, List.setIfInBounds_toArray, List.set_cons_zero, List.set_cons_succ]
          refine tH 7 (h := ?_)
          try simp only [List.getElem_toArray, List.getElem_cons_zero, List.getElem_cons_succ, Act.put, List.setIfInBounds_toArray, List.set_cons_zero, List.set_cons_succ]
          refine wpAnyH_ready (rs := [8]) (by kernel_rfl) (by simp) ?_
          refine AllReadyH.cons rfl (fun K hK => ?_) AllReadyH.nil
          go_simp
          refine (HC.out _ (HVa.out.below bD) (HVb.out.below bD)).mono ?_; rintro e w2 ⟨rfl, hb⟩; have b2' := bD.trans (hb.mono bD.size); clear hb
          refine hK.out _ _ (⟨(b2'.cell (p := ⟨b1, o1 + k * 3, none⟩) lb1).trans x0, (b2'.cell (p := ⟨b1, o1 + k * 3 + 1, none⟩) lb1).trans x1, (b2'.cell (p := ⟨b1, o1 + k * 3 + 2, none⟩) lb1).trans x2, (b2'.cell (p := ⟨b2, o2 + k * 3, none⟩) lb2).trans y0, (b2'.cell (p := ⟨b2, o2 + k * 3 + 1, none⟩) lb2).trans y1, (b2'.cell (p := ⟨b2, o2 + k * 3 + 2, none⟩) lb2).trans y2⟩) (fun hHeld => ?_)
          clear hK K
          try simp only [List.getElem_toArray, List.getElem_cons_zero, List.getElem_cons_succ, Act.put, List.setIfInBounds_toArray, List.set_cons_zero, List.set_cons_succ]
          refine tH 9 (h := ?_)
          try simp only [List.getElem_toArray, List.getElem_cons_zero, List.getElem_cons_succ, Act.put, List.setIfInBounds_toArray, List.set_cons_zero, List.set_cons_succ]
          refine wpAnyH_done (by kernel_rfl) ?_ _
          refine NoPanic.normal ?_
          have HB2 := Lib.hid (HW.out.trans (b2'.mono HW.out.size))
          clear b2' bD hHeld x0 x1 x2 y0 y1 y2
          go_wp2_with fail
          go_ret
          refine ⟨HF.out false ?_, HB2.out⟩
          unfold sameRs
          have : ((List.range A.length).all fun i => sameR (A.getD i noRec) (B.getD i noRec)) = false := by
            rw [List.all_eq_false]
            exact ⟨k, List.mem_range.2 hlt, by rw [HQ.out]; simp⟩
          rw [this, Bool.and_false]
        · go_wp2_with fail
          refine wp_region_noPanic ?_
          refine wp_region_held_drew (S := (fun w' => w'.cell? ⟨b1, o1 + k * 3, none⟩ = some (.int .i64 id1) ∧ w'.cell? ⟨b1, o1 + k * 3 + 1, none⟩ = some (.int .i64 ver1) ∧ w'.cell? ⟨b1, o1 + k * 3 + 2, none⟩ = some (.slice a1 n1 c1) ∧ w'.cell? ⟨b2, o2 + k * 3, none⟩ = some (.int .i64 id2) ∧ w'.cell? ⟨b2, o2 + k * 3 + 1, none⟩ = some (.int .i64 ver2) ∧ w'.cell? ⟨b2, o2 + k * 3 + 2, none⟩ = some (.slice a2 n2 c2))) (by kernel_rfl) (⟨x0, x1, x2, y0, y1, y2⟩) (fun hHeld => ?_)
          refine tH 0 (h := ?_)
          try simp only [List.getElem_toArray, List.getElem_cons_zero, List.getElem_cons_succ, Act.put, List.setIfInBounds_toArray, List.set_cons_zero, List.set_cons_succ]
          refine tH 1 (h := ?_)
          try simp only [List.getElem_toArray, List.getElem_cons_zero, List.getElem_cons_succ, Act.put, List.setIfInBounds_toArray, List.set_cons_zero, List.set_cons_succ]
          refine tH 2 (h := ?_)
          try simp only [List.getElem_toArray, List.getElem_cons_zero, List.getElem_cons_succ, Act.put, List.setIfInBounds_toArray, List.set_cons_zero, List.set_cons_succ]
          refine tH 3 (h := ?_)
          try simp only [List.getElem_toArray, List.getElem_cons_zero, List.getElem_cons_succ, Act.put, List.setIfInBounds_toArray, List.set_cons_zero, List.set_cons_succ]
          refine tH 4 (h := ?_)
          try simp only [List.getElem_toArray, List.getElem_cons_zero, List.getElem_cons_succ, Act.put, List.setIfInBounds_toArray, List.set_cons_zero, List.set_cons_succ]
          refine tH 5 (h := ?_)
          try simp only [List.getElem_toArray, List.getElem_cons_zero, List.getElem_cons_succ, Act.put, List.setIfInBounds_toArray, List.set_cons_zero, List.set_cons_succ]
          refine tH 6 (h := ?_)
          try simp only [List.getElem_toArray, List.getElem_cons_zero, List.getElem_cons_succ, Act.put, List.setIfInBounds_toArray, List.set_cons_zero, List.set_cons_succ]
          refine tH 7 (h := ?_)
          try simp only [List.getElem_toArray, List.getElem_cons_zero, List.getElem_cons_succ, Act.put, List.setIfInBounds_toArray, List.set_cons_zero, List.set_cons_succ]
          refine wpAnyH_ready (rs := [8]) (by kernel_rfl) (by simp) ?_
          refine AllReadyH.cons rfl (fun K hK => ?_) AllReadyH.nil
          go_simp
          refine (HC.out _ (HVa.out.below bD) (HVb.out.below bD)).mono ?_; rintro e w2 ⟨rfl, hb⟩; have b2' := bD.trans (hb.mono bD.size); clear hb
          refine hK.out _ _ (⟨(b2'.cell (p := ⟨b1, o1 + k * 3, none⟩) lb1).trans x0, (b2'.cell (p := ⟨b1, o1 + k * 3 + 1, none⟩) lb1).trans x1, (b2'.cell (p := ⟨b1, o1 + k * 3 + 2, none⟩) lb1).trans x2, (b2'.cell (p := ⟨b2, o2 + k * 3, none⟩) lb2).trans y0, (b2'.cell (p := ⟨b2, o2 + k * 3 + 1, none⟩) lb2).trans y1, (b2'.cell (p := ⟨b2, o2 + k * 3 + 2, none⟩) lb2).trans y2⟩) (fun hHeld => ?_)
          clear hK K
          try simp only [List.getElem_toArray, List.getElem_cons_zero, List.getElem_cons_succ, Act.put, List.setIfInBounds_toArray, List.set_cons_zero, List.set_cons_succ]
          refine tH 9 (h := ?_)
          try simp only [List.getElem_toArray, List.getElem_cons_zero, List.getElem_cons_succ, Act.put, List.setIfInBounds_toArray, List.set_cons_zero, List.set_cons_succ]
          refine wpAnyH_done (by kernel_rfl) ?_ _
          refine NoPanic.normal ?_
          have HB2 := Lib.hid (HW.out.trans (b2'.mono HW.out.size))
          have HT := Lib.hid (show ∀ j, j < k + 1 → sameR (A.getD j noRec) (B.getD j noRec) = true from fun j hj => by
            by_cases e : j = k
            · subst e; exact HQ.out
            · exact HE.out j (by omega))
          clear b2' bD hHeld x0 x1 x2 y0 y1 y2
          go_wp2_with fail
          go_roundw
          case rel => exact ⟨k + 1, by omega, by go_num, HB2, HT⟩
          case measure => simp [intOf]; omega
      · have hq : decide ((k : Int) < A.length) = false := by simp; omega
        have hkk : k = A.length := by omega
        have HKK := Lib.hid hkk
        clear hkk
        go_wp2_with fail
        go_ret
        refine ⟨HF.out true ?_, HW.out⟩
        unfold sameRs
        rw [decide_eq_true HL.out, Bool.true_and, List.all_eq_true]
        intro j hj
        exact HE.out j (by rw [HKK.out]; exact List.mem_range.1 hj)
  · have hne : ((A.length : Int) != (B.length : Int)) = true := by simp; omega
    have hne2 : (A.length != B.length) = true := by simp; omega
    have hs : sameRs A B = false := by unfold sameRs; rw [decide_eq_false hl, Bool.false_and]
    rw [hs]
    clear hl hs
    go_enter Tryz.func25, Tryz.ntmps25
    go_wp2_with fail
    go_ret
    exact ⟨rfl, Below.refl _ _⟩
end
section
set_option maxRecDepth 100000
open Go.RowKit Cal
attribute [local go_sem] toList_mk mk_size bytes_append
theorem file_len {s : SchemaL} {R : List RecL} (h : allN s R = 0) (h5 : s.fields.length ≤ 5) : (fileR R).length ≤ 50000 := by
  obtain ⟨hc, hl64, _⟩ := allN_ok h
  have h1 := follows_len h h5 R.length
  rw [List.take_length] at h1
  have h2 : (Lib.decDigits R.length).length ≤ 7 := dec_most (k := 7) (by decide) (by omega)
  have h3 : fileR R = rowsT (R.map rowR) ++ ([101, 110, 100, 32] ++ Lib.decDigits R.length ++ [10]) := by unfold fileR; rw [rowsT_append, rowsT_one]; rfl
  rw [h3]
  simp only [List.length_append, List.length_cons, List.length_nil]
  omega
end
section
set_option maxRecDepth 100000
open Go.RowKit
set_option maxHeartbeats 400000 in
theorem rrot13 (x : Int) (w : World) : Calls Tryz.prog 252 #[.int .u64 x, .int .i64 13] w fun e w' => e = .returned (.int .u64 (rotP 8192 2251799813685248 x)) ∧ Below w.heap.size w w' := by
  have hw : IntKind.i64.wrap 51 = 51 := by decide
  go_enter Tryz.func252, Tryz.ntmps252
  go_wp2_with fail
  refine wp_region_noPanic ?_
  refine wp_region_held_drew (S := (fun _ => True)) (by kernel_rfl) (trivial) (fun hHeld => ?_)
  refine tH 0 (h := ?_)
  try simp only [List.getElem_toArray, List.getElem_cons_zero, List.getElem_cons_succ, Act.put, List.setIfInBounds_toArray, List.set_cons_zero, List.set_cons_succ]
  refine tH 1 (h := ?_)
  try simp only [List.getElem_toArray, List.getElem_cons_zero, List.getElem_cons_succ, Act.put, List.setIfInBounds_toArray, List.set_cons_zero, List.set_cons_succ]
  refine tH 2 (h := ?_)
  try simp only [List.getElem_toArray, List.getElem_cons_zero, List.getElem_cons_succ, Act.put, List.setIfInBounds_toArray, List.set_cons_zero, List.set_cons_succ]
  refine tH 3 (h := ?_)
  try simp only [List.getElem_toArray, List.getElem_cons_zero, List.getElem_cons_succ, Act.put, List.setIfInBounds_toArray, List.set_cons_zero, List.set_cons_succ]
  refine tH 4 (h := ?_)
  try simp only [List.getElem_toArray, List.getElem_cons_zero, List.getElem_cons_succ, Act.put, List.setIfInBounds_toArray, List.set_cons_zero, List.set_cons_succ]
  refine tH 5 (h := ?_)
  try simp only [List.getElem_toArray, List.getElem_cons_zero, List.getElem_cons_succ, Act.put, List.setIfInBounds_toArray, List.set_cons_zero, List.set_cons_succ]
  refine tH 6 (h := ?_)
  try simp only [List.getElem_toArray, List.getElem_cons_zero, List.getElem_cons_succ, Act.put, List.setIfInBounds_toArray, List.set_cons_zero, List.set_cons_succ]
  refine tH 7 (h := ?_)
  try simp only [List.getElem_toArray, List.getElem_cons_zero, List.getElem_cons_succ, Act.put, List.setIfInBounds_toArray, List.set_cons_zero, List.set_cons_succ]
  refine tH 8 (h := ?_)
  try simp only [List.getElem_toArray, List.getElem_cons_zero, List.getElem_cons_succ, Act.put, List.setIfInBounds_toArray, List.set_cons_zero, List.set_cons_succ]
  refine wpAnyH_done (by kernel_rfl) ?_ _
  refine NoPanic.normal ?_
  go_wp2_with fail
  go_ret
  exact ⟨rfl, (Below.refl _ _).drew⟩
set_option maxHeartbeats 400000 in
theorem rrot32 (x : Int) (w : World) : Calls Tryz.prog 252 #[.int .u64 x, .int .i64 32] w fun e w' => e = .returned (.int .u64 (rotP 4294967296 4294967296 x)) ∧ Below w.heap.size w w' := by
  have hw : IntKind.i64.wrap 32 = 32 := by decide
  go_enter Tryz.func252, Tryz.ntmps252
  go_wp2_with fail
  refine wp_region_noPanic ?_
  refine wp_region_held_drew (S := (fun _ => True)) (by kernel_rfl) (trivial) (fun hHeld => ?_)
  refine tH 0 (h := ?_)
  try simp only [List.getElem_toArray, List.getElem_cons_zero, List.getElem_cons_succ, Act.put, List.setIfInBounds_toArray, List.set_cons_zero, List.set_cons_succ]
  refine tH 1 (h := ?_)
  try simp only [List.getElem_toArray, List.getElem_cons_zero, List.getElem_cons_succ, Act.put, List.setIfInBounds_toArray, List.set_cons_zero, List.set_cons_succ]
  refine tH 2 (h := ?_)
  try simp only [List.getElem_toArray, List.getElem_cons_zero, List.getElem_cons_succ, Act.put, List.setIfInBounds_toArray, List.set_cons_zero, List.set_cons_succ]
  refine tH 3 (h := ?_)
  try simp only [List.getElem_toArray, List.getElem_cons_zero, List.getElem_cons_succ, Act.put, List.setIfInBounds_toArray, List.set_cons_zero, List.set_cons_succ]
  refine tH 4 (h := ?_)
  try simp only [List.getElem_toArray, List.getElem_cons_zero, List.getElem_cons_succ, Act.put, List.setIfInBounds_toArray, List.set_cons_zero, List.set_cons_succ]
  refine tH 5 (h := ?_)
  try simp only [List.getElem_toArray, List.getElem_cons_zero, List.getElem_cons_succ, Act.put, List.setIfInBounds_toArray, List.set_cons_zero, List.set_cons_succ]
  refine tH 6 (h := ?_)
  try simp only [List.getElem_toArray, List.getElem_cons_zero, List.getElem_cons_succ, Act.put, List.setIfInBounds_toArray, List.set_cons_zero, List.set_cons_succ]
  refine tH 7 (h := ?_)
  try simp only [List.getElem_toArray, List.getElem_cons_zero, List.getElem_cons_succ, Act.put, List.setIfInBounds_toArray, List.set_cons_zero, List.set_cons_succ]
  refine tH 8 (h := ?_)
  try simp only [List.getElem_toArray, List.getElem_cons_zero, List.getElem_cons_succ, Act.put, List.setIfInBounds_toArray, List.set_cons_zero, List.set_cons_succ]
  refine wpAnyH_done (by kernel_rfl) ?_ _
  refine NoPanic.normal ?_
  go_wp2_with fail
  go_ret
  exact ⟨rfl, (Below.refl _ _).drew⟩
set_option maxHeartbeats 400000 in
theorem rrot16 (x : Int) (w : World) : Calls Tryz.prog 252 #[.int .u64 x, .int .i64 16] w fun e w' => e = .returned (.int .u64 (rotP 65536 281474976710656 x)) ∧ Below w.heap.size w w' := by
  have hw : IntKind.i64.wrap 48 = 48 := by decide
  go_enter Tryz.func252, Tryz.ntmps252
  go_wp2_with fail
  refine wp_region_noPanic ?_
  refine wp_region_held_drew (S := (fun _ => True)) (by kernel_rfl) (trivial) (fun hHeld => ?_)
  refine tH 0 (h := ?_)
  try simp only [List.getElem_toArray, List.getElem_cons_zero, List.getElem_cons_succ, Act.put, List.setIfInBounds_toArray, List.set_cons_zero, List.set_cons_succ]
  refine tH 1 (h := ?_)
  try simp only [List.getElem_toArray, List.getElem_cons_zero, List.getElem_cons_succ, Act.put, List.setIfInBounds_toArray, List.set_cons_zero, List.set_cons_succ]
  refine tH 2 (h := ?_)
  try simp only [List.getElem_toArray, List.getElem_cons_zero, List.getElem_cons_succ, Act.put, List.setIfInBounds_toArray, List.set_cons_zero, List.set_cons_succ]
  refine tH 3 (h := ?_)
  try simp only [List.getElem_toArray, List.getElem_cons_zero, List.getElem_cons_succ, Act.put, List.setIfInBounds_toArray, List.set_cons_zero, List.set_cons_succ]
  refine tH 4 (h := ?_)
  try simp only [List.getElem_toArray, List.getElem_cons_zero, List.getElem_cons_succ, Act.put, List.setIfInBounds_toArray, List.set_cons_zero, List.set_cons_succ]
  refine tH 5 (h := ?_)
  try simp only [List.getElem_toArray, List.getElem_cons_zero, List.getElem_cons_succ, Act.put, List.setIfInBounds_toArray, List.set_cons_zero, List.set_cons_succ]
  refine tH 6 (h := ?_)
  try simp only [List.getElem_toArray, List.getElem_cons_zero, List.getElem_cons_succ, Act.put, List.setIfInBounds_toArray, List.set_cons_zero, List.set_cons_succ]
  refine tH 7 (h := ?_)
  try simp only [List.getElem_toArray, List.getElem_cons_zero, List.getElem_cons_succ, Act.put, List.setIfInBounds_toArray, List.set_cons_zero, List.set_cons_succ]
  refine tH 8 (h := ?_)
  try simp only [List.getElem_toArray, List.getElem_cons_zero, List.getElem_cons_succ, Act.put, List.setIfInBounds_toArray, List.set_cons_zero, List.set_cons_succ]
  refine wpAnyH_done (by kernel_rfl) ?_ _
  refine NoPanic.normal ?_
  go_wp2_with fail
  go_ret
  exact ⟨rfl, (Below.refl _ _).drew⟩
set_option maxHeartbeats 400000 in
theorem rrot21 (x : Int) (w : World) : Calls Tryz.prog 252 #[.int .u64 x, .int .i64 21] w fun e w' => e = .returned (.int .u64 (rotP 2097152 8796093022208 x)) ∧ Below w.heap.size w w' := by
  have hw : IntKind.i64.wrap 43 = 43 := by decide
  go_enter Tryz.func252, Tryz.ntmps252
  go_wp2_with fail
  refine wp_region_noPanic ?_
  refine wp_region_held_drew (S := (fun _ => True)) (by kernel_rfl) (trivial) (fun hHeld => ?_)
  refine tH 0 (h := ?_)
  try simp only [List.getElem_toArray, List.getElem_cons_zero, List.getElem_cons_succ, Act.put, List.setIfInBounds_toArray, List.set_cons_zero, List.set_cons_succ]
  refine tH 1 (h := ?_)
  try simp only [List.getElem_toArray, List.getElem_cons_zero, List.getElem_cons_succ, Act.put, List.setIfInBounds_toArray, List.set_cons_zero, List.set_cons_succ]
  refine tH 2 (h := ?_)
  try simp only [List.getElem_toArray, List.getElem_cons_zero, List.getElem_cons_succ, Act.put, List.setIfInBounds_toArray, List.set_cons_zero, List.set_cons_succ]
  refine tH 3 (h := ?_)
  try simp only [List.getElem_toArray, List.getElem_cons_zero, List.getElem_cons_succ, Act.put, List.setIfInBounds_toArray, List.set_cons_zero, List.set_cons_succ]
  refine tH 4 (h := ?_)
  try simp only [List.getElem_toArray, List.getElem_cons_zero, List.getElem_cons_succ, Act.put, List.setIfInBounds_toArray, List.set_cons_zero, List.set_cons_succ]
  refine tH 5 (h := ?_)
  try simp only [List.getElem_toArray, List.getElem_cons_zero, List.getElem_cons_succ, Act.put, List.setIfInBounds_toArray, List.set_cons_zero, List.set_cons_succ]
  refine tH 6 (h := ?_)
  try simp only [List.getElem_toArray, List.getElem_cons_zero, List.getElem_cons_succ, Act.put, List.setIfInBounds_toArray, List.set_cons_zero, List.set_cons_succ]
  refine tH 7 (h := ?_)
  try simp only [List.getElem_toArray, List.getElem_cons_zero, List.getElem_cons_succ, Act.put, List.setIfInBounds_toArray, List.set_cons_zero, List.set_cons_succ]
  refine tH 8 (h := ?_)
  try simp only [List.getElem_toArray, List.getElem_cons_zero, List.getElem_cons_succ, Act.put, List.setIfInBounds_toArray, List.set_cons_zero, List.set_cons_succ]
  refine wpAnyH_done (by kernel_rfl) ?_ _
  refine NoPanic.normal ?_
  go_wp2_with fail
  go_ret
  exact ⟨rfl, (Below.refl _ _).drew⟩
set_option maxHeartbeats 400000 in
theorem rrot17 (x : Int) (w : World) : Calls Tryz.prog 252 #[.int .u64 x, .int .i64 17] w fun e w' => e = .returned (.int .u64 (rotP 131072 140737488355328 x)) ∧ Below w.heap.size w w' := by
  have hw : IntKind.i64.wrap 47 = 47 := by decide
  go_enter Tryz.func252, Tryz.ntmps252
  go_wp2_with fail
  refine wp_region_noPanic ?_
  refine wp_region_held_drew (S := (fun _ => True)) (by kernel_rfl) (trivial) (fun hHeld => ?_)
  refine tH 0 (h := ?_)
  try simp only [List.getElem_toArray, List.getElem_cons_zero, List.getElem_cons_succ, Act.put, List.setIfInBounds_toArray, List.set_cons_zero, List.set_cons_succ]
  refine tH 1 (h := ?_)
  try simp only [List.getElem_toArray, List.getElem_cons_zero, List.getElem_cons_succ, Act.put, List.setIfInBounds_toArray, List.set_cons_zero, List.set_cons_succ]
  refine tH 2 (h := ?_)
  try simp only [List.getElem_toArray, List.getElem_cons_zero, List.getElem_cons_succ, Act.put, List.setIfInBounds_toArray, List.set_cons_zero, List.set_cons_succ]
  refine tH 3 (h := ?_)
  try simp only [List.getElem_toArray, List.getElem_cons_zero, List.getElem_cons_succ, Act.put, List.setIfInBounds_toArray, List.set_cons_zero, List.set_cons_succ]
  refine tH 4 (h := ?_)
  try simp only [List.getElem_toArray, List.getElem_cons_zero, List.getElem_cons_succ, Act.put, List.setIfInBounds_toArray, List.set_cons_zero, List.set_cons_succ]
  refine tH 5 (h := ?_)
  try simp only [List.getElem_toArray, List.getElem_cons_zero, List.getElem_cons_succ, Act.put, List.setIfInBounds_toArray, List.set_cons_zero, List.set_cons_succ]
  refine tH 6 (h := ?_)
  try simp only [List.getElem_toArray, List.getElem_cons_zero, List.getElem_cons_succ, Act.put, List.setIfInBounds_toArray, List.set_cons_zero, List.set_cons_succ]
  refine tH 7 (h := ?_)
  try simp only [List.getElem_toArray, List.getElem_cons_zero, List.getElem_cons_succ, Act.put, List.setIfInBounds_toArray, List.set_cons_zero, List.set_cons_succ]
  refine tH 8 (h := ?_)
  try simp only [List.getElem_toArray, List.getElem_cons_zero, List.getElem_cons_succ, Act.put, List.setIfInBounds_toArray, List.set_cons_zero, List.set_cons_succ]
  refine wpAnyH_done (by kernel_rfl) ?_ _
  refine NoPanic.normal ?_
  go_wp2_with fail
  go_ret
  exact ⟨rfl, (Below.refl _ _).drew⟩
set_option maxHeartbeats 4000000 in
theorem rround_any (s : Sip) (w : World) : Calls Tryz.prog 202 #[.agg (sipC s)] w fun e w' => e = .returned (.agg (sipC (rndP s))) ∧ Below w.heap.size w w' := by
  obtain ⟨a, b, c, d⟩ := s
  go_enter Tryz.func202, Tryz.ntmps202
  go_wp2_with fail
  refine wp_world (fun W hW => ?_)
  have hb0 : Below w.heap.size w W := by rw [hW]; exact ((Below.refl _ _).alloc (Nat.le_refl _) _).alloc (by simp) _
  have hv0 : W.heap[w.heap.size]? = some (.cells (sipC ⟨a, b, c, d⟩) 229 (0, 0)) := by rw [hW]; exact blk_old (blk_new rfl)
  have hr0 : W.heap[w.heap.size + 1]? = some (.cells (sipC ⟨0, 0, 0, 0⟩) 229 (0, 0)) := by rw [hW]; exact blk_new (by simp)
  clear hW
  have HB0 := Lib.hid hb0; have HR0 := Lib.hid hr0
  obtain ⟨c0, c1, c2, c3⟩ := cellsS hv0
  clear hb0 hv0 hr0
  refine wp_region_noPanic ?_
  refine wp_region_held_drew (S := (fun w' => w'.cell? ⟨w.heap.size, 0, none⟩ = some (.int .u64 a) ∧ w'.cell? ⟨w.heap.size, 1, none⟩ = some (.int .u64 b) ∧ w'.cell? ⟨w.heap.size, 2, none⟩ = some (.int .u64 c) ∧ w'.cell? ⟨w.heap.size, 3, none⟩ = some (.int .u64 d))) (by kernel_rfl) (⟨c0, c1, c2, c3⟩) (fun hHeld => ?_)
  refine tH 0 (h := ?_)
  try simp only [List.getElem_toArray, List.getElem_cons_zero, List.getElem_cons_succ, Act.put, List.setIfInBounds_toArray, List.set_cons_zero, List.set_cons_succ]
  refine tH 1 (h := ?_)
  try simp only [List.getElem_toArray, List.getElem_cons_zero, List.getElem_cons_succ, Act.put, List.setIfInBounds_toArray, List.set_cons_zero, List.set_cons_succ]
  refine tH 2 (h := ?_)
  try simp only [List.getElem_toArray, List.getElem_cons_zero, List.getElem_cons_succ, Act.put, List.setIfInBounds_toArray, List.set_cons_zero, List.set_cons_succ]
  refine tH 3 (h := ?_)
  try simp only [List.getElem_toArray, List.getElem_cons_zero, List.getElem_cons_succ, Act.put, List.setIfInBounds_toArray, List.set_cons_zero, List.set_cons_succ]
  refine tH 4 (h := ?_)
  try simp only [List.getElem_toArray, List.getElem_cons_zero, List.getElem_cons_succ, Act.put, List.setIfInBounds_toArray, List.set_cons_zero, List.set_cons_succ]
  refine tH 5 (h := ?_)
  try simp only [List.getElem_toArray, List.getElem_cons_zero, List.getElem_cons_succ, Act.put, List.setIfInBounds_toArray, List.set_cons_zero, List.set_cons_succ]
  refine tH 6 (h := ?_)
  try simp only [List.getElem_toArray, List.getElem_cons_zero, List.getElem_cons_succ, Act.put, List.setIfInBounds_toArray, List.set_cons_zero, List.set_cons_succ]
  refine tH 7 (h := ?_)
  try simp only [List.getElem_toArray, List.getElem_cons_zero, List.getElem_cons_succ, Act.put, List.setIfInBounds_toArray, List.set_cons_zero, List.set_cons_succ]
  refine tH 8 (h := ?_)
  try simp only [List.getElem_toArray, List.getElem_cons_zero, List.getElem_cons_succ, Act.put, List.setIfInBounds_toArray, List.set_cons_zero, List.set_cons_succ]
  refine tH 9 (h := ?_)
  try simp only [List.getElem_toArray, List.getElem_cons_zero, List.getElem_cons_succ, Act.put, List.setIfInBounds_toArray, List.set_cons_zero, List.set_cons_succ]
  refine tH 10 (h := ?_)
  try simp only [List.getElem_toArray, List.getElem_cons_zero, List.getElem_cons_succ, Act.put, List.setIfInBounds_toArray, List.set_cons_zero, List.set_cons_succ]
  refine tH 11 (h := ?_)
  try simp only [List.getElem_toArray, List.getElem_cons_zero, List.getElem_cons_succ, Act.put, List.setIfInBounds_toArray, List.set_cons_zero, List.set_cons_succ]
  refine wpAnyH_done (by kernel_rfl) ?_ _
  refine NoPanic.normal ?_
  refine exitk_world (fun W1 hW1 => ?_)
  have hb1 : Below w.heap.size w W1 := by rw [hW1]; exact HB0.out.drew
  have hr1 : W1.heap[w.heap.size + 1]? = some (.cells (sipC ⟨0, 0, 0, 0⟩) 229 (0, 0)) := by rw [hW1]; exact HR0.out
  clear hW1 c0 c1 c2 c3 hHeld HB0 HR0
  have HB := Lib.hid hb1; have HR := Lib.hid hr1; clear hb1 hr1
  go_wp2_with fail
  refine (rrot13 _ _).mono ?_
  rintro e w1 ⟨rfl, hb⟩
  have hB := HB.out.trans (hb.mono HB.out.size); have hR := blk_below hb (lt_of_blk HR.out) HR.out
  clear HB HR hb; have HB := Lib.hid hB; have HR := Lib.hid hR; clear hB hR
  go_wp2_with fail
  refine (rrot32 _ _).mono ?_
  rintro e w2 ⟨rfl, hb⟩
  have hB := HB.out.trans (hb.mono HB.out.size); have hR := blk_below hb (lt_of_blk HR.out) HR.out
  clear HB HR hb; have HB := Lib.hid hB; have HR := Lib.hid hR; clear hB hR
  go_wp2_with fail
  refine (rrot16 _ _).mono ?_
  rintro e w3 ⟨rfl, hb⟩
  have hB := HB.out.trans (hb.mono HB.out.size); have hR := blk_below hb (lt_of_blk HR.out) HR.out
  clear HB HR hb; have HB := Lib.hid hB; have HR := Lib.hid hR; clear hB hR
  go_wp2_with fail
  refine (rrot21 _ _).mono ?_
  rintro e w4 ⟨rfl, hb⟩
  have hB := HB.out.trans (hb.mono HB.out.size); have hR := blk_below hb (lt_of_blk HR.out) HR.out
  clear HB HR hb; have HB := Lib.hid hB; have HR := Lib.hid hR; clear hB hR
  go_wp2_with fail
  refine (rrot17 _ _).mono ?_
  rintro e w5 ⟨rfl, hb⟩
  have hB := HB.out.trans (hb.mono HB.out.size); have hR := blk_below hb (lt_of_blk HR.out) HR.out
  clear HB HR hb; have HB := Lib.hid hB; have HR := Lib.hid hR; clear hB hR
  go_wp2_with fail
  refine (rrot32 _ _).mono ?_
  rintro e w6 ⟨rfl, hb⟩
  have hB := HB.out.trans (hb.mono HB.out.size); have hR := blk_below hb (lt_of_blk HR.out) HR.out
  clear HB HR hb; have HB := Lib.hid hB; have HR := Lib.hid hR; 
  obtain ⟨r0, r1, r2, r3⟩ := cellsS hR
  obtain ⟨f0, f1, f2, f3⟩ := freeS hR
  have lr := lt_of_blk hR
  clear hB hR
  go_wp2_with fail
  exact bodyPost_row1 rfl rfl (blk_set (i := 3) (blk_set (i := 2) (blk_set (i := 1) (blk_set (i := 0) HR.out)))) Tryz.underlying229 rfl (by kernel_rfl)
    ⟨rfl, (((HB.out.setCell (p := ⟨w.heap.size + 1, 0, none⟩) (Nat.le_succ _) _).setCell (p := ⟨w.heap.size + 1, 1, none⟩) (Nat.le_succ _) _).setCell (p := ⟨w.heap.size + 1, 2, none⟩) (Nat.le_succ _) _).setCell (p := ⟨w.heap.size + 1, 3, none⟩) (Nat.le_succ _) _⟩
end
section
set_option maxRecDepth 100000
open Go.RowKit
/-- s lies in block b; all but that block is as it was -/
def RipAt (w : World) (b : Nat) (s : Sip) (w' : World) : Prop := w'.heap[b]? = some (.cells (sipC s) 229 (0, 0)) ∧ w.grownBy w' (some b)
theorem RipAt.read {w w' : World} {b : Nat} {s : Sip} (h : RipAt w b s w') : (w'.cell? ⟨b, 0, none⟩ = some (.int .u64 s.a) ∧ w'.cell? ⟨b, 1, none⟩ = some (.int .u64 s.b) ∧ w'.cell? ⟨b, 2, none⟩ = some (.int .u64 s.c) ∧ w'.cell? ⟨b, 3, none⟩ = some (.int .u64 s.d)) ∧
    (w'.frozen? ⟨b, 0, none⟩ = false ∧ w'.frozen? ⟨b, 1, none⟩ = false ∧ w'.frozen? ⟨b, 2, none⟩ = false ∧ w'.frozen? ⟨b, 3, none⟩ = false) := ⟨cellsS h.1, freeS h.1⟩
theorem RipAt.set {w w' : World} {b i : Nat} {s s' : Sip} {v : Value} (h : RipAt w b s w') (e : (sipC s).setIfInBounds i v = sipC s') : RipAt w b s' (w'.setCell ⟨b, i, none⟩ v) :=
  ⟨by rw [← e]; exact blk_set h.1, grown_set h.2⟩
theorem RipAt.below {w w' w'' : World} {b : Nat} {s : Sip} (h : RipAt w b s w') (hb : Below w'.heap.size w' w'') : RipAt w b s w'' :=
  ⟨blk_below hb (lt_of_blk h.1) h.1, grown_trans h.2 (grown_below hb)⟩
theorem RipAt.all {w w' : World} {b : Nat} {s s' : Sip} (h : RipAt w b s w') : RipAt w b s' ((((w'.setCell ⟨b, 0, none⟩ (.int .u64 s'.a)).setCell ⟨b, 1, none⟩ (.int .u64 s'.b)).setCell ⟨b, 2, none⟩ (.int .u64 s'.c)).setCell ⟨b, 3, none⟩ (.int .u64 s'.d)) :=
  (((h.set (s' := ⟨s'.a, s.b, s.c, s.d⟩) rfl).set (s' := ⟨s'.a, s'.b, s.c, s.d⟩) rfl).set (s' := ⟨s'.a, s'.b, s'.c, s.d⟩) rfl).set rfl
theorem RipAt.base {w W w' : World} {b B : Nat} {s : Sip} (h : RipAt W b s w') (hb : Below B w W) (hB : B ≤ b) (hW : B ≤ W.heap.size) : Below B w w' :=
  hb.trans ⟨h.2.os, h.2.tape, h.2.output, h.2.size, fun k hk => h.2.block k (by omega) (by simp; omega)⟩
/-- the length's byte on top -/
theorem top_wrap (n : Nat) : (n : Int) % 256 * 72057594037927936 = IntKind.u64.wrap ((n : Int) * 72057594037927936) := by
  have h : ∀ x : Int, IntKind.u64.wrap x = x % 18446744073709551616 := fun x => rfl
  rw [h]; omega
set_option maxHeartbeats 8000000 in
theorem rsum_any (S : Nat → Prop) (ka kb : Int) (v : Value) (l : List UInt8) (w : World) (h : Vec w S 1 encB v l) (hl : l.length ≤ 1000000000) :
    Calls Tryz.prog 154 #[.agg #[.int .u64 ka, .int .u64 kb], v] w fun e w' => e = .returned (.int .u64 (sumP ka kb l)) ∧ Below w.heap.size w w' := by
  obtain ⟨a, cap, rfl⟩ := h.slice
  have hcap := h.len.2
  have HV := Lib.hid (h.any.move (S' := fun b => b < w.heap.size) (w' := w) (Nat.le_refl _) fun b hb _ => ⟨rfl, hb⟩); clear h
  go_enter Tryz.func154, Tryz.ntmps154
  go_wp2_with fail
  refine wp_world (fun W hW => ?_)
  have hb0 : Below w.heap.size w W := by rw [hW]; exact ((Below.refl _ _).alloc (Nat.le_refl _) _).alloc (by simp) _
  have hs0 : RipAt W (w.heap.size + 1) ⟨xr ka 8317987319222330741, xr kb 7237128888997146477, xr ka 7816392313619706465, xr kb 8387220255154660723⟩ W := by rw [hW]; exact ⟨blk_new (by simp), grown_refl _ _⟩
  have hv0 := HV.out.below hb0
  clear hW HV
  have HB0 := Lib.hid hb0; have HS0 := Lib.hid hs0; have HV0 := Lib.hid hv0
  clear hb0 hs0 hv0
  go_loopw [6] (fun at_ wr => ∃ (j : Nat) (s : Sip), at_ = .int .i64 ((8 * j : Nat) : Int) ∧ 8 * j ≤ l.length ∧ RipAt W (w.heap.size + 1) s wr ∧ Hid (eachP s (l.drop (8 * j)) ((l.drop (8 * j)).length / 8) = eachP ⟨xr ka 8317987319222330741, xr kb 7237128888997146477, xr ka 7816392313619706465, xr kb 8387220255154660723⟩ l (l.length / 8))) (fun at_ _ => l.length + 1 - (intOf at_).toNat)
  case atStart => exact ⟨0, _, rfl, by omega, HS0.out, Lib.hid rfl⟩
  case round =>
    obtain ⟨j, s, rfl, hj, hs, HE⟩ := hrel
    obtain ⟨J, hJ⟩ : ∃ J, 8 * j = J := ⟨_, rfl⟩
    rw [hJ] at hj HE ⊢
    obtain ⟨r, hr⟩ : ∃ r, l.drop J = r := ⟨_, rfl⟩
    have hrl : r.length = l.length - J := by rw [← hr, List.length_drop]
    rw [hr] at HE
    have HRD := Lib.hid hr; have HJ := Lib.hid hJ
    have HV := Lib.hid (HV0.out.grown (b := w.heap.size + 1) (fun x hx => by omega) hs.2)
    have HS := Lib.hid hs
    obtain ⟨⟨c0, c1, c2, c3⟩, f0, f1, f2, f3⟩ := hs.read
    have lb := lt_of_blk hs.1
    clear hs hr hJ
    by_cases hlt : 8 ≤ r.length
    · have hmin : min (8 : Int) ((l.length : Int) - (J : Int)) = 8 := by omega
      have hq8 : decide ((8 : Int) < 8) = false := rfl
      have hend : eachP s r (r.length / 8) = eachP (wordP s (numP 0 0 (r.take 8))) (r.drop 8) ((r.drop 8).length / 8) := eachP_more s r hlt
      have HEnd := Lib.hid hend; clear hend
      go_wp2_with fail
      go_loopw [7, 9] (fun m i wx => wx = wr ∧ ∃ (k : Nat) (mm : Int), i = .int .i64 k ∧ k ≤ 8 ∧ m = .int .u64 mm ∧ Hid (numP k mm ((r.take 8).drop k) = numP 0 0 (r.take 8))) (fun _ i _ => 8 - (intOf i).toNat)
      case atStart => exact ⟨rfl, 0, 0, rfl, by omega, rfl, Lib.hid rfl⟩
      case round =>
        obtain ⟨rfl, k, mm, rfl, hk, rfl, HT⟩ := hrel
        by_cases hlk : k < 8
        · have hq : decide ((k : Int) < 8) = true := by simp; omega
          obtain ⟨b, off, rfl, hb, hc⟩ := HV.out.get (J + k) (by omega)
          have c0 := hc 0 _ rfl
          rw [Nat.mul_one, Nat.add_zero] at c0
          unfold byteV at c0
          have hkr : k < (r.take 8).length := by rw [List.length_take]; omega
          have hg : (r.take 8)[k] = l[J + k] := by rw [List.getElem_take]; simp only [← HRD.out, List.getElem_drop]
          have ht := HT.out
          rw [List.drop_eq_getElem_cons hkr, hg] at ht
          have HT2 := Lib.hid ht
          clear ht hg HT hc
          go_wp2_with fail
          go_roundw
          case rel => exact ⟨trivial, k + 1, _, by go_num, by omega, rfl, Lib.hid (by rw [← HT2.out]; rfl)⟩
          case measure => simp [intOf]; omega
        · have hq : decide ((k : Int) < 8) = false := by simp; omega
          have hd : (r.take 8).drop k = [] := List.drop_eq_nil_of_le (by rw [List.length_take]; omega)
          rw [hd] at HT
          obtain rfl : mm = numP 0 0 (r.take 8) := HT.out
          clear HT hd hq
          obtain ⟨m, hm⟩ : ∃ m, numP 0 0 (r.take 8) = m := ⟨_, rfl⟩
          rw [hm] at HEnd ⊢
          have HM := Lib.hid hm; clear hm
          go_wp2_with fail
          have hS := HS.out.set (i := 3) (v := .int .u64 (xr s.d m)) (s' := ⟨s.a, s.b, s.c, xr s.d m⟩) rfl
          clear HS; have HS := Lib.hid hS; clear hS
          clear c0 c1 c2 c3 f0 f1 f2 f3
          refine (rround_any ⟨s.a, s.b, s.c, xr s.d m⟩ _).mono ?_
          rintro e w1 ⟨rfl, hb⟩
          have hS := HS.out.below hb
          clear HS hb; have HS := Lib.hid hS; clear hS
          go_wp2_with fail
          refine (rround_any (rndP ⟨s.a, s.b, s.c, xr s.d m⟩) _).mono ?_
          rintro e w2 ⟨rfl, hb⟩
          have hS := HS.out.below hb
          clear HS hb
          obtain ⟨t, ht⟩ : ∃ t, rndP (rndP ⟨s.a, s.b, s.c, xr s.d m⟩) = t := ⟨_, rfl⟩
          rw [ht]
          have hw : wordP s m = ⟨xr t.a m, t.b, t.c, t.d⟩ := by rw [← ht]; rfl
          have HW := Lib.hid hw
          have HS := Lib.hid hS
          obtain ⟨⟨c0, c1, c2, c3⟩, f0, f1, f2, f3⟩ := hS.read
          have lb2 := lt_of_blk hS.1
          clear hS ht hw
          go_wp2_with fail
          exact ⟨⟨j + 1, ⟨xr t.a m, t.b, t.c, t.d⟩, congrArg (Value.int .i64) (by have := HJ.out; omega), by have := HJ.out; omega, (HS.out.all (s' := t)).set (i := 0) (v := .int .u64 (xr t.a m)) rfl, Lib.hid (by rw [← HE.out, HEnd.out, HW.out, show 8 * (j + 1) = J + 8 by have := HJ.out; omega, ← List.drop_drop, HRD.out])⟩, by simp [intOf]; omega⟩
    · have hmin : min (8 : Int) ((l.length : Int) - (J : Int)) = (l.length : Int) - (J : Int) := by omega
      have hq8 : decide ((l.length : Int) - (J : Int) < 8) = true := by simp; omega
      have hr8 : r.take 8 = r := List.take_of_length_le (by omega)
      have hE := HE.out
      rw [eachP_end s r (by omega)] at hE
      have HE2 := Lib.hid hE.symm
      clear hE HE
      go_wp2_with fail
      go_loopw [7, 9] (fun m i wx => wx = wr ∧ ∃ (k : Nat) (mm : Int), i = .int .i64 k ∧ k ≤ r.length ∧ m = .int .u64 mm ∧ Hid (numP k mm ((r.take 8).drop k) = numP 0 0 (r.take 8))) (fun _ i _ => r.length - (intOf i).toNat)
      case atStart => exact ⟨rfl, 0, 0, rfl, by omega, rfl, Lib.hid rfl⟩
      case round =>
        obtain ⟨rfl, k, mm, rfl, hk, rfl, HT⟩ := hrel
        by_cases hlk : k < r.length
        · have hq : decide ((k : Int) < (l.length : Int) - (J : Int)) = true := by simp; omega
          obtain ⟨b, off, rfl, hb, hc⟩ := HV.out.get (J + k) (by omega)
          have c0 := hc 0 _ rfl
          rw [Nat.mul_one, Nat.add_zero] at c0
          unfold byteV at c0
          have hkr : k < (r.take 8).length := by rw [List.length_take]; omega
          have hg : (r.take 8)[k] = l[J + k] := by rw [List.getElem_take]; simp only [← HRD.out, List.getElem_drop]
          have ht := HT.out
          rw [List.drop_eq_getElem_cons hkr, hg] at ht
          have HT2 := Lib.hid ht
          clear ht hg HT hc
          go_wp2_with fail
          go_roundw
          case rel => exact ⟨trivial, k + 1, _, by go_num, by omega, rfl, Lib.hid (by rw [← HT2.out]; rfl)⟩
          case measure => simp [intOf]; omega
        · have hq : decide ((k : Int) < (l.length : Int) - (J : Int)) = false := by simp; omega
          have hd : (r.take 8).drop k = [] := List.drop_eq_nil_of_le (by rw [List.length_take]; omega)
          rw [hd] at HT
          obtain rfl : mm = numP 0 0 (r.take 8) := HT.out
          clear HT hd hq
          have htw := top_wrap l.length
          rw [hr8]
          obtain ⟨m, hm⟩ : ∃ m, bits .or .u64 (numP 0 0 r) (IntKind.u64.wrap ((l.length : Int) * 72057594037927936)) = m := ⟨_, rfl⟩
          have hm2 : bits .or .u64 (numP 0 0 r) ((l.length : Int) % 256 * 72057594037927936) = m := by rw [htw]; exact hm
          have HM := Lib.hid hm; clear hm htw
          go_wp2_with fail
          clear hm2
          have hS := HS.out.set (i := 3) (v := .int .u64 (xr s.d m)) (s' := ⟨s.a, s.b, s.c, xr s.d m⟩) rfl
          clear HS; have HS := Lib.hid hS; clear hS
          clear c0 c1 c2 c3 f0 f1 f2 f3
          refine (rround_any ⟨s.a, s.b, s.c, xr s.d m⟩ _).mono ?_
          rintro e w1 ⟨rfl, hb⟩
          have hS := HS.out.below hb
          clear HS hb; have HS := Lib.hid hS; clear hS
          go_wp2_with fail
          refine (rround_any (rndP ⟨s.a, s.b, s.c, xr s.d m⟩) _).mono ?_
          rintro e w2 ⟨rfl, hb⟩
          have hS := HS.out.below hb
          clear HS hb
          obtain ⟨t, ht⟩ : ∃ t, rndP (rndP ⟨s.a, s.b, s.c, xr s.d m⟩) = t := ⟨_, rfl⟩
          rw [ht]
          have hw : wordP s m = ⟨xr t.a m, t.b, t.c, t.d⟩ := by rw [← ht]; rfl
          have HW := Lib.hid hw
          have HS := Lib.hid hS
          obtain ⟨⟨c0, c1, c2, c3⟩, f0, f1, f2, f3⟩ := hS.read
          have lb2 := lt_of_blk hS.1
          clear hS ht hw
          go_upto_region 14 with fail
          refine wp_world (fun W1 hW1 => ?_)
          have hS : RipAt W (w.heap.size + 1) t W1 := by rw [hW1]; exact HS.out.all (s' := t)
          clear HS c0 c1 c2 c3 f0 f1 f2 f3 lb2 hW1; have HS := Lib.hid hS
          obtain ⟨⟨c0, c1, c2, c3⟩, f0, f1, f2, f3⟩ := hS.read
          have lb2 := lt_of_blk hS.1
          clear hS
          go_upto_region 16 with fail
          refine wp_world (fun W2 hW2 => ?_)
          have hS : RipAt W (w.heap.size + 1) ⟨xr t.a m, t.b, t.c, t.d⟩ W2 := by rw [hW2]; exact HS.out.set (i := 0) (v := .int .u64 (xr t.a m)) rfl
          clear HS c0 c1 c2 c3 f0 f1 f2 f3 lb2 hW2; have HS := Lib.hid hS
          obtain ⟨⟨c0, c1, c2, c3⟩, f0, f1, f2, f3⟩ := hS.read
          have lb2 := lt_of_blk hS.1
          clear hS
          go_wp2_with fail
          have hS := HS.out.set (i := 2) (v := .int .u64 (xr t.c 255)) (s' := ⟨xr t.a m, t.b, xr t.c 255, t.d⟩) rfl
          clear HS c0 c1 c2 c3 f0 f1 f2 f3; have HS := Lib.hid hS; clear hS
          obtain ⟨u, hu⟩ : ∃ u : Sip, (⟨xr t.a m, t.b, t.c, t.d⟩ : Sip) = u := ⟨_, rfl⟩
          refine (rround_any ⟨xr t.a m, t.b, xr t.c 255, t.d⟩ _).mono ?_
          rintro e w3 ⟨rfl, hb⟩
          have hS := HS.out.below hb
          clear HS hb; have HS := Lib.hid hS; clear hS
          go_wp2_with fail
          refine (rround_any (rndI 1 ⟨xr t.a m, t.b, xr t.c 255, t.d⟩) _).mono ?_
          rintro e w4 ⟨rfl, hb⟩
          have hS := HS.out.below hb
          clear HS hb; have HS := Lib.hid hS; clear hS
          go_wp2_with fail
          refine (rround_any (rndI 2 ⟨xr t.a m, t.b, xr t.c 255, t.d⟩) _).mono ?_
          rintro e w5 ⟨rfl, hb⟩
          have hS := HS.out.below hb
          clear HS hb; have HS := Lib.hid hS; clear hS
          go_wp2_with fail
          refine (rround_any (rndI 3 ⟨xr t.a m, t.b, xr t.c 255, t.d⟩) _).mono ?_
          rintro e w6 ⟨rfl, hb⟩
          have hS := HS.out.below hb
          clear HS hb
          obtain ⟨v, hv⟩ : ∃ v, rndI 4 ⟨xr t.a m, t.b, xr t.c 255, t.d⟩ = v := ⟨_, rfl⟩
          rw [show rndP (rndI 3 ⟨xr t.a m, t.b, xr t.c 255, t.d⟩) = v from hv]
          have HVv := Lib.hid hv
          have HS := Lib.hid hS
          obtain ⟨⟨c0, c1, c2, c3⟩, f0, f1, f2, f3⟩ := hS.read
          have lb2 := lt_of_blk hS.1
          clear hS hv hu
          go_upto_region 18 with fail
          refine wp_world (fun W3 hW3 => ?_)
          have hS : RipAt W (w.heap.size + 1) v W3 := by rw [hW3]; exact HS.out.all (s' := v)
          clear HS hW3 c0 c1 c2 c3 f0 f1 f2 f3; have HS := Lib.hid hS
          obtain ⟨⟨c0, c1, c2, c3⟩, f0, f1, f2, f3⟩ := hS.read
          have lb3 := lt_of_blk hS.1
          clear hS
          go_wp2_with fail
          go_ret
          refine ⟨?_, HS.out.base HB0.out (by omega) HB0.out.size⟩
          rw [← sumP_of ka kb l s r HE2.out ⟨xr t.a m, t.b, t.c, t.d⟩ (by rw [HM.out]; exact HW.out) v HVv.out]
          rfl
end
section
set_option maxRecDepth 100000
open Go.RowKit
set_option maxHeartbeats 4000000 in
theorem rsparts_any (S : Nat → Prop) (ka kb : Int) (v : Value) (L : List (List UInt8)) (w : World) (h : Vec w S 1 encS v L) (hl : ∀ t ∈ L, t.length ≤ 60000) (hn : L.length ≤ 1000) :
    Calls Tryz.prog 108 #[.agg #[.int .u64 ka, .int .u64 kb], v] w fun e w' => e = .returned (.int .u64 (partsP ka kb L)) ∧ Below w.heap.size w w' := by
  obtain ⟨a, cap, rfl⟩ := h.slice
  have HV := Lib.hid h.any; clear h
  have HL := Lib.hid hl; clear hl
  go_enter Tryz.func108, Tryz.ntmps108
  go_wp2_with fail
  refine wp_world (fun W hW => ?_)
  have hb0 : Below w.heap.size w W := by rw [hW]; exact (Below.refl _ _).alloc (Nat.le_refl _) _
  have hk : W.heap[w.heap.size]? = some (.cells #[.int .u64 ka, .int .u64 kb] 45 (0, 0)) := by rw [hW]; exact blk_new rfl
  have HV0 := Lib.hid (HV.out.below hb0)
  have HB0 := Lib.hid hb0; have HK := Lib.hid hk
  clear hW hb0 hk HV
  go_loopw [5, 6] (fun v i wr => ∃ k : Nat, i = .int .i64 k ∧ k ≤ L.length ∧ OwnV 5 1 encB W v ((L.take k).flatMap partP) wr) (fun _ i _ => L.length - (intOf i).toNat)
  case atStart => exact ⟨0, rfl, by omega, OwnV.start _ _ _ _⟩
  case round =>
    obtain ⟨k, rfl, hk, ho⟩ := hrel
    have HO := Lib.hid ho; clear ho
    by_cases hlt : k < L.length
    · have hq : decide ((k : Int) < L.length) = true := by simp; omega
      obtain ⟨t, ht⟩ : ∃ t, L[k] = t := ⟨_, rfl⟩
      have htl : t.length ≤ 60000 := HL.out t (by rw [← ht]; exact List.getElem_mem _)
      obtain ⟨b, off, rfl, hb, hc⟩ := (HV0.out.below HO.out.2).get k hlt
      have c0 := hc 0 _ rfl
      rw [Nat.mul_one, Nat.add_zero, ht] at c0
      clear hc
      have hm : decide ((65535 : Int) < t.length) = false := by simp; omega
      have hx := extract_all t
      obtain ⟨x, ex⟩ : ∃ x, UInt8.ofNat (t.length / 256) = x := ⟨_, rfl⟩
      obtain ⟨y, ey⟩ : ∃ y, UInt8.ofNat t.length = y := ⟨_, rfl⟩
      have hxa : (t.length : Int) / 256 = (x.toNat : Int) := by rw [← ex, UInt8.toNat_ofNat']; omega
      have hya : (t.length : Int) % 256 = (y.toNat : Int) := by rw [← ey, UInt8.toNat_ofNat']; omega
      have hp := partP_short t htl
      rw [ex, ey] at hp
      have hts : L.take (k + 1) = L.take k ++ [t] := by rw [List.take_succ_eq_append_getElem hlt, ht]
      have htk := sparts_len (L.take k) fun u hu => HL.out u (List.mem_of_mem_take hu)
      rw [List.length_take] at htk
      have HP := Lib.hid hp; have HTs := Lib.hid hts
      clear hp hts ex ey
      obtain ⟨P, hP⟩ : ∃ P, (L.take k).flatMap partP = P := ⟨_, rfl⟩
      rw [hP] at HO htk
      have HPP := Lib.hid hP; clear hP
      have HO1 := Lib.hid (HO.out.below ((Below.refl _ _).alloc (Nat.le_refl _) (.cells #[.int .u8 (x.toNat : Int), .int .u8 (y.toNat : Int)] 5)))
      have HR1 := Lib.hid (reads_row (xs := [x, y].flatMap encB) (n := 2) (c := 2) (heap_alloc_new wr (.cells #[.int .u8 (x.toNat : Int), .int .u8 (y.toNat : Int)] 5)) rfl)
      have hz0 := HO.out.2.size
      have hlen : P.length + ([x, y] : List UInt8).length ≤ 1000000000 := by simp only [List.length_cons, List.length_nil]; omega
      have hlen2 : (P ++ [x, y]).length + t.length ≤ 1000000000 := by rw [List.length_append]; simp only [List.length_cons, List.length_nil]; omega
      go_wp2_with (at_builtin; first | (refine wpList_append_v rfl (.tmp 23) (.tmp 31) 55 rfl 5 (.int .u8 0) 1 1 encB (fun _ => rfl) one_encB Tryz.underlying55 infoBy rfl (by decide) (by decide) (w0 := W) (v := u5) (A := P) (B := [x, y]) rfl HO1.out rfl HR1.out hlen ?_; intro v2 w2 ho2 hk2 hz2) | (refine wpList_append_s rfl (.tmp 33) (.tmp 34) 55 9 rfl 5 Tryz.underlying55 Tryz.underlying9 infoBy (w0 := W) (v := v2) (A := P ++ [x, y]) t rfl ho2 rfl hlen2 ?_; intro v3 w3 ho3 hz3))
      go_roundw
      case rel => exact ⟨k + 1, by go_num, by omega, by rw [HTs.out, List.flatMap_append, HPP.out, List.flatMap_cons, List.flatMap_nil, List.append_nil, HP.out, ← List.append_assoc]; exact ho3⟩
      case measure => simp [intOf]; omega
    · have hq : decide ((k : Int) < L.length) = false := by simp; omega
      have htk := sparts_len L fun u hu => HL.out u hu
      rw [List.take_of_length_le (by omega)] at HO
      have hz0 := HO.out.2.size
      have hk2 : wr.heap[w.heap.size]? = some (.cells #[.int .u64 ka, .int .u64 kb] 45 (0, 0)) := blk_below HO.out.2 (lt_of_blk HK.out) HK.out
      obtain ⟨k0, k1⟩ := cells2K hk2
      go_wp2_with fail
      refine (rsum_any _ ka kb _ (L.flatMap partP) _ (OwnV.vec (size := 1) (enc := encB) (fun _ => rfl) HO.out) (by omega)).mono ?_
      rintro e w2 ⟨rfl, hb2⟩
      go_wp2_with fail
      go_ret
      exact ⟨rfl, HB0.out.trans ((HO.out.2.mono HB0.out.size).trans (hb2.mono (by have := HB0.out.size; omega)))⟩
end
section
set_option maxRecDepth 100000
open Go.RowKit
attribute [local go_sem] toList_mk mk_size str_append
set_option maxHeartbeats 1000000 in
theorem rnumber_dig (n : Nat) (w : World) (hn : n < 10) : Calls Tryz.prog 63 #[.int .i64 n] w fun e w' => e = .returned (strV (Lib.decDigits n)) ∧ Below w.heap.size w w' := by
  obtain ⟨c, hc⟩ : ∃ c : UInt8, UInt8.ofNat (48 + n) = c := ⟨_, rfl⟩
  have hcv : 48 + (n : Int) = (c.toNat : Int) := by rw [← hc, UInt8.toNat_ofNat']; omega
  rw [digs_one n hn, hc]
  have d1 : decide ((n : Int) < 10) = true := by simp; omega
  have hm : max (n : Int) 0 = (n : Int) := by omega
  have hown := (own_new (w0 := w) (w := w.alloc (.cells #[.int .u8 (48 + (n : Int))] 5)) (enc := encB) (L := [c]) (size := 1) (n := 1) (e := 5) (g := w.heap.size) ((Below.refl _ _).alloc (Nat.le_refl _) _) (Nat.le_refl _) (by rw [hcv]; exact blk_new rfl) rfl (by simp) rfl).1
  have hconv := run_convert_owned (P := Tryz.prog) [c] hown Tryz.underlying55 Tryz.underlying5 Tryz.underlying9
  clear hown hc hcv
  go_enter Tryz.func63, Tryz.ntmps63
  go_wp2_with fail
  go_ret
  exact ⟨rfl, (Below.refl _ _).alloc (Nat.le_refl _) _⟩
theorem dec_cut {n : Nat} (h : ¬ n < 10) : Lib.decDigits n = Lib.decDigits (n / 10) ++ Lib.decDigits (n % 10) := by
  rw [Lib.decDigits, dif_neg h, Lib.decDigits_one (show n % 10 < 10 by omega)]
set_option maxHeartbeats 2000000 in
theorem rnum01_any : ∀ (k n : Nat) (w : World), n < 10 ^ k → n ≤ 1000000000000 → Calls Tryz.prog 63 #[.int .i64 n] w fun e w' => e = .returned (strV (Lib.decDigits n)) ∧ Below w.heap.size w w'
  | 0, n, w, h, _ => rnumber_dig n w (by omega)
  | k + 1, n, w, h, hm => by
    by_cases h10 : n < 10
    · exact rnumber_dig n w h10
    · obtain ⟨q, hq⟩ : ∃ q, n / 10 = q := ⟨_, rfl⟩
      obtain ⟨r, hr⟩ : ∃ r, n % 10 = r := ⟨_, rfl⟩
      have e1 : (n : Int).tdiv 10 = (q : Int) := by rw [← hq]; exact (Int.ofNat_tdiv n 10).symm
      have e2 : (n : Int).tmod 10 = (r : Int) := by rw [← hr]; exact (Int.ofNat_tmod n 10).symm
      have e3 : (n : Int) / 10 = (q : Int) := by omega
      have e4 : (n : Int) % 10 = (r : Int) := by omega
      have e5 : IntKind.i64.wrap (q : Int) = q := by rw [IntKind.wrap_i64]; omega
      have i1 := fun w => rnum01_any k q w (by rw [← hq]; rw [Nat.pow_succ] at h; omega) (by omega)
      have i2 := fun w => rnumber_dig r w (by omega)
      rw [dec_cut h10, hq, hr]
      have l1 : (Lib.decDigits q).length ≤ 13 := dec_most (k := 13) (by decide) (by omega)
      have l2 : (Lib.decDigits r).length ≤ 1 := dec_most (k := 1) (by decide) (by omega)
      obtain ⟨X, hX⟩ : ∃ X, Lib.decDigits q = X := ⟨_, rfl⟩
      obtain ⟨Y, hY⟩ : ∃ Y, Lib.decDigits r = Y := ⟨_, rfl⟩
      rw [hX] at i1 l1; rw [hY] at i2 l2; rw [hX, hY]
      have d1 : decide ((n : Int) < 10) = false := by simp; omega
      have I1 := Lib.hid i1; have I2 := Lib.hid i2
      have c1 : ¬ 9223372036854775807 < X.length + Y.length := by omega
      clear i1 i2 hX hY hq hr h h10
      go_enter Tryz.func63, Tryz.ntmps63
      go_wp2_with fail
      refine (I1.out _).mono ?_
      rintro e w1 ⟨rfl, hb⟩
      have HB1 := Lib.hid hb; clear hb
      go_wp2_with fail
      refine (I2.out _).mono ?_
      rintro e w2 ⟨rfl, hb⟩
      have HB2 := Lib.hid (HB1.out.trans (hb.mono HB1.out.size)); clear hb
      go_wp2_with fail
      go_ret
      exact ⟨rfl, HB2.out⟩
theorem hexT_ext (d : Nat) (h : d < 16) : (⟨#[48, 49, 50, 51, 52, 53, 54, 55, 56, 57, 97, 98, 99, 100, 101, 102]⟩ : ByteArray).extract d (d + 1) = ⟨[digH d].toArray⟩ := by
  have : ∀ k : Fin 16, (⟨#[48, 49, 50, 51, 52, 53, 54, 55, 56, 57, 97, 98, 99, 100, 101, 102]⟩ : ByteArray).extract k.val (k.val + 1) = ⟨[digH k.val].toArray⟩ := by decide
  exact this ⟨d, h⟩
set_option maxHeartbeats 4000000 in
theorem rword_hex (n : Nat) (w : World) (hn : n < 18446744073709551616) :
    Calls Tryz.prog 107 #[.int .u64 n] w fun e w' => e = .returned (strV (hexN 16 n)) ∧ Below w.heap.size w w' := by
  go_enter Tryz.func107, Tryz.ntmps107
  go_wp2_with fail
  go_loopw [3, 4] (fun v sh wr => ∃ k : Nat, k ≤ 16 ∧ sh = .int .i64 (60 - 4 * (k : Int)) ∧ v = strV ((hexN 16 n).take k) ∧ Below w.heap.size w wr) (fun _ sh _ => (intOf sh + 4).toNat)
  case atStart => exact ⟨0, by omega, rfl, by simp, Below.refl _ _⟩
  case round =>
    obtain ⟨k, hk, rfl, rfl, hbw⟩ := hrel
    have HBw := Lib.hid hbw; clear hbw
    by_cases hk16 : k < 16
    · have hq1 : decide ((0 : Int) ≤ 60 - 4 * (k : Int)) = true := by simp only [decide_eq_true_eq]; omega
      obtain ⟨d, hd⟩ : ∃ d, n / 16 ^ (15 - k) % 16 = d := ⟨_, rfl⟩
      have hd16 : d < 16 := by rw [← hd]; exact Nat.mod_lt _ (by decide)
      have hnib : bits .and .u64 ((n : Int) / 2 ^ (60 - 4 * k)) 15 = (d : Int) := by rw [nib_at n k hn hk16, hd]
      have hmore := hexN_more (n := n) hk16
      rw [hd] at hmore
      have hl : ((hexN 16 n).take k).length ≤ 16 := by rw [List.length_take]; omega
      obtain ⟨X, hX⟩ : ∃ X, (hexN 16 n).take k = X := ⟨_, rfl⟩
      rw [hX] at hmore hl ⊢
      have hwr : IntKind.u64.wrap ((d : Int) + 1) = (d : Int) + 1 := by rw [IntKind.wrap_u64]; omega
      have hext := hexT_ext d hd16
      have hsz : ([digH d].length) = 1 := rfl
      have c1 : ¬ 9223372036854775807 < X.length + 1 := by omega
      have c2 : ¬ 9223372036854775807 < X.length + [digH d].length := by rw [hsz]; omega
      have HMr := Lib.hid hmore
      have i1 : (d : Int) ≤ 16 := by omega
      have i2 : (d : Int) + 1 ≤ 16 := by omega
      have i3 : d + 1 ≤ 16 := by omega
      clear hd hmore hX
      go_wp2_with fail
      go_roundw
      case rel => exact ⟨k + 1, by omega, by congr 1; omega, by rw [HMr.out], HBw.out⟩
      case measure => simp [intOf]; omega
    · obtain rfl : k = 16 := by omega
      have hq1 : decide ((0 : Int) ≤ 60 - 4 * ((16 : Nat) : Int)) = false := by decide
      rw [List.take_of_length_le (by rw [hexN_len]; omega)]
      go_wp2_with fail
      go_ret
      exact ⟨rfl, HBw.out⟩
set_option maxHeartbeats 4000000 in
theorem rrsum_any (t : List UInt8) (w : World) (ht : t.length ≤ 60000) :
    Calls Tryz.prog 62 #[strV t] w fun e w' => e = .returned (strV (sumT t)) ∧ Below w.heap.size w w' := by
  obtain ⟨q, hq⟩ : ∃ q : Nat, partsP 0 0 [t] = q := Int.eq_ofNat_of_zero_le (partsP_range 0 0 [t]).1
  have hqr : q < 18446744073709551616 := by have := (partsP_range 0 0 [t]).2; omega
  have hs : sumT t = hexN 16 q := by unfold sumT; rw [hq]; rfl
  rw [hs]
  have HQ := Lib.hid hq
  clear hs hq
  go_enter Tryz.func62, Tryz.ntmps62
  go_wp2_with fail
  refine wp_calls_world (fun W hW => ?_)
  have hb0 : Below w.heap.size w W := by rw [hW]; exact (Below.refl w.heap.size w).alloc (Nat.le_refl _) _
  have gl : W.heap[w.heap.size]? = some (.cells (([t] : List (List UInt8)).flatMap encS).toArray 9 (0, 0)) := by rw [hW]; exact blk_new rfl
  have hv : Vec W Any1 1 encS (.slice (some ⟨w.heap.size, 0, none⟩) 1 1) [t] := blockVec (k := 1) (enc := encS) (L := [t]) (S := Any1) (A := w.heap.size) (fun _ => rfl) gl trivial 1 rfl
  clear hW gl
  refine (rsparts_any Any1 0 0 _ [t] W hv (by intro u hu; simp at hu; subst hu; exact ht) (by simp)).mono ?_
  rw [HQ.out]
  rintro e w1 ⟨rfl, hb⟩
  have HB1 := Lib.hid (hb0.trans (hb.mono hb0.size)); clear hb hb0 hv
  go_wp2_with fail
  refine (rword_hex q w1 hqr).mono ?_
  rintro e w2 ⟨rfl, hb⟩
  have HB2 := Lib.hid (HB1.out.trans (hb.mono HB1.out.size)); clear hb
  go_wp2_with fail
  go_ret
  exact ⟨rfl, HB2.out⟩
end
section
set_option maxRecDepth 100000
open Go.RowKit Cal
attribute [local go_sem] toList_mk mk_size str_append
def tabs (V : List (List UInt8)) : List UInt8 := V.flatMap fun t => 9 :: t
theorem tabs_snoc (V : List (List UInt8)) (t : List UInt8) : tabs (V ++ [t]) = tabs V ++ 9 :: t := by unfold tabs; simp
theorem joinC_tabs : ∀ (x : List UInt8) (L : List (List UInt8)), joinC 9 (x :: L) = x ++ tabs L
  | x, [] => by simp [joinC, tabs]
  | x, y :: L => by rw [joinC, joinC_tabs y L]; simp [tabs]
theorem tabs_len (m : Nat) : ∀ V : List (List UInt8), (∀ t ∈ V, t.length ≤ m) → (tabs V).length ≤ V.length * (m + 1)
  | [], _ => by simp [tabs]
  | t :: V, h => by
    have h1 := tabs_len m V fun u hu => h u (List.mem_cons_of_mem _ hu)
    have h2 := h t List.mem_cons_self
    show (tabs (t :: V)).length ≤ (V.length + 1) * (m + 1)
    have h3 : (tabs (t :: V)).length = t.length + 1 + (tabs V).length := by simp [tabs]; omega
    rw [h3, Nat.add_mul]; omega
set_option maxHeartbeats 4000000 in
theorem rrline_yes (S : Nat → Prop) (r : RecL) (sv : Value) (w : World) (hv : Vec w S 1 encS sv r.vals) (hi : 1 ≤ r.id ∧ r.id ≤ 1048576 ∧ 1 ≤ r.ver ∧ r.ver ≤ 1048576) (hs : ∀ t ∈ r.vals, t.length ≤ 64) (hn : r.vals.length ≤ 5) :
    Calls Tryz.prog 61 #[.agg #[.int .i64 r.id, .int .i64 r.ver, sv]] w fun e w' => e = .returned (strV (lineR r)) ∧ Below w.heap.size w w' := by
  obtain ⟨a, cap, rfl⟩ := hv.slice
  obtain ⟨id, ver, vals⟩ := r
  dsimp only at hv hi hs hn ⊢
  obtain ⟨i, rfl⟩ : ∃ i : Nat, id = i := Int.eq_ofNat_of_zero_le (by omega)
  obtain ⟨j, rfl⟩ : ∃ j : Nat, ver = j := Int.eq_ofNat_of_zero_le (by omega)
  have hx : (Lib.decDigits i).length ≤ 7 := dec_most (k := 7) (by decide) (by omega)
  have hy : (Lib.decDigits j).length ≤ 7 := dec_most (k := 7) (by decide) (by omega)
  have hit1 := fun w => rnum01_any 7 i w (by omega) (by omega)
  have hit2 := fun w => rnum01_any 7 j w (by omega) (by omega)
  have hln : lineR ⟨(i : Int), (j : Int), vals⟩ = joinC 9 (Lib.decDigits i :: Lib.decDigits j :: vals) := rfl
  rw [hln]
  obtain ⟨x, ex⟩ : ∃ x, Lib.decDigits i = x := ⟨_, rfl⟩
  obtain ⟨y, ey⟩ : ∃ y, Lib.decDigits j = y := ⟨_, rfl⟩
  rw [ex] at hx hit1 ⊢; rw [ey] at hy hit2 ⊢
  have htl : ∀ k, (tabs (vals.take k)).length ≤ 325 := fun k => by
    have h1 := tabs_len 64 (vals.take k) fun t ht => hs t (List.mem_of_mem_take ht)
    have h2 : (vals.take k).length ≤ 5 := by rw [List.length_take]; omega
    have h3 := Nat.mul_le_mul_right 65 h2
    omega
  have HLn := Lib.hid (show joinC 9 (x :: y :: vals) = x ++ ([9] ++ y ++ tabs vals) by rw [joinC_tabs]; simp [tabs])
  have HV := Lib.hid hv.any; have HX := Lib.hid hit1; have HY := Lib.hid hit2; have HT := Lib.hid htl; have HSh := Lib.hid hs
  clear hv hs hit1 hit2 ex ey hln hi htl
  go_enter Tryz.func61, Tryz.ntmps61
  go_wp2_with fail
  refine wp_world (fun W hW => ?_)
  have hb0 : Below w.heap.size w W := by rw [hW]; exact (Below.refl w.heap.size w).alloc (Nat.le_refl _) _
  have hr0 : W.heap[w.heap.size]? = some (.cells #[.int .i64 i, .int .i64 j, .slice a vals.length cap] 48 (0, 0)) := by rw [hW]; exact blk_new rfl
  clear hW
  obtain ⟨c0, c1, c2⟩ := cells3 hr0
  have lr := lt_of_blk hr0
  have HB0 := Lib.hid hb0; have HR0 := Lib.hid hr0
  clear hb0 hr0
  have bD : Below W.heap.size W W.drew := (Below.refl _ _).drew
  have n1 : ¬ 9223372036854775807 < x.length + 1 := by omega
  have n2 : ¬ 9223372036854775807 < x.length + 1 + y.length := by omega
  go_cut [3] (fun s3 wx => s3 = strV (x ++ 9 :: y) ∧ Below W.heap.size W wx)
  case first =>
    refine wp_region_noPanic ?_
    refine wp_region_held_drew (S := (fun w' => w'.cell? ⟨w.heap.size, 0, none⟩ = some (.int .i64 i) ∧ w'.cell? ⟨w.heap.size, 1, none⟩ = some (.int .i64 j))) (by kernel_rfl) (⟨c0, c1⟩) (fun hHeld => ?_)
    refine tH 0 (h := ?_)
    try simp only [List.getElem_toArray, List.getElem_cons_zero, List.getElem_cons_succ, Act.put, List.setIfInBounds_toArray, List.set_cons_zero, List.set_cons_succ]
    refine tH 1 (h := ?_)
    try simp only [List.getElem_toArray, List.getElem_cons_zero, List.getElem_cons_succ, Act.put, List.setIfInBounds_toArray, List.set_cons_zero, List.set_cons_succ]
    refine tH 4 (h := ?_)
    try simp only [List.getElem_toArray, List.getElem_cons_zero, List.getElem_cons_succ, Act.put, List.setIfInBounds_toArray, List.set_cons_zero, List.set_cons_succ]
    refine tH 5 (h := ?_)
    try simp only [List.getElem_toArray, List.getElem_cons_zero, List.getElem_cons_succ, Act.put, List.setIfInBounds_toArray, List.set_cons_zero, List.set_cons_succ]
    refine wpAnyH_ready (rs := [2]) (by kernel_rfl) (by simp) ?_
    refine AllReadyH.cons rfl (fun K hK => ?_) AllReadyH.nil
    go_simp
    refine (HX.out _).mono ?_; rintro e w1 ⟨rfl, hb⟩; have b1 := bD.trans (hb.mono bD.size); clear hb
    refine hK.out _ _ (⟨(b1.cell (p := ⟨w.heap.size, 0, none⟩) lr).trans c0, (b1.cell (p := ⟨w.heap.size, 1, none⟩) lr).trans c1⟩) (fun hHeld => ?_)
    clear hK K
    try simp only [List.getElem_toArray, List.getElem_cons_zero, List.getElem_cons_succ, Act.put, List.setIfInBounds_toArray, List.set_cons_zero, List.set_cons_succ]
    refine tH 3 (h := ?_)
    try simp only [List.getElem_toArray, List.getElem_cons_zero, List.getElem_cons_succ, Act.put, List.setIfInBounds_toArray, List.set_cons_zero, List.set_cons_succ]
    refine wpAnyH_ready (rs := [6]) (by kernel_rfl) (by simp) ?_
    refine AllReadyH.cons rfl (fun K hK => ?_) AllReadyH.nil
    go_simp
    refine (HY.out _).mono ?_; rintro e w2 ⟨rfl, hb⟩; have b2 := b1.trans (hb.mono b1.size); clear hb
    refine hK.out _ _ (⟨(b2.cell (p := ⟨w.heap.size, 0, none⟩) lr).trans c0, (b2.cell (p := ⟨w.heap.size, 1, none⟩) lr).trans c1⟩) (fun hHeld => ?_)
    clear hK K
    try simp only [List.getElem_toArray, List.getElem_cons_zero, List.getElem_cons_succ, Act.put, List.setIfInBounds_toArray, List.set_cons_zero, List.set_cons_succ]
    refine tH 7 (h := ?_)
    try simp only [List.getElem_toArray, List.getElem_cons_zero, List.getElem_cons_succ, Act.put, List.setIfInBounds_toArray, List.set_cons_zero, List.set_cons_succ]
    refine tH 8 (h := ?_)
    try simp only [List.getElem_toArray, List.getElem_cons_zero, List.getElem_cons_succ, Act.put, List.setIfInBounds_toArray, List.set_cons_zero, List.set_cons_succ]
    refine wpAnyH_done (by kernel_rfl) ?_ _
    refine NoPanic.normal ?_
    go_wp2_with fail
    go_meet
    exact ⟨rfl, b2⟩
  case rest =>
    obtain ⟨wq, hwq⟩ : ∃ u, u = wc := ⟨_, rfl⟩
    subst hwq
    obtain ⟨rfl, hbq⟩ := hcut
    have hrq := blk_below hbq lr HR0.out
    have HBq := Lib.hid (HB0.out.trans (hbq.mono HB0.out.size)); have HRq := Lib.hid hrq
    clear hbq hrq c0 c1 c2 bD HR0
    obtain ⟨z, hz⟩ : ∃ z, x ++ 9 :: y = z := ⟨_, rfl⟩
    have hzl : z.length ≤ 15 := by rw [← hz]; simp; omega
    have HZ := Lib.hid (show joinC 9 (x :: y :: vals) = z ++ tabs vals by rw [HLn.out, ← hz]; simp)
    rw [hz]
    clear hz n1 n2 HLn
    obtain ⟨c0, c1, c2⟩ := cells3 HRq.out
    have lq := lt_of_blk HRq.out
    go_wp2_with fail
    go_loopw [3, 4] (fun s t wr => ∃ k : Nat, k ≤ vals.length ∧ t = .int .i64 k ∧ s = strV (z ++ tabs (vals.take k)) ∧ wr = wq) (fun _ t _ => vals.length - (intOf t).toNat)
    case atStart => exact ⟨0, by omega, rfl, by simp [tabs], rfl⟩
    case round =>
      obtain ⟨k, hk, rfl, rfl, rfl⟩ := hrel
      by_cases hlt : k < vals.length
      · have hq : decide ((k : Int) < vals.length) = true := by simp; omega
        have hki : (k : Int) < (vals.length : Int) := by omega
        obtain ⟨u, hu⟩ : ∃ u, vals[k] = u := ⟨_, rfl⟩
        have hul : u.length ≤ 64 := HSh.out u (by rw [← hu]; exact List.getElem_mem _)
        obtain ⟨b, off, rfl, hb, hc⟩ := (HV.out.below HBq.out).get k hlt
        have d0 := hc 0 _ rfl
        rw [Nat.mul_one, Nat.add_zero, hu] at d0
        obtain ⟨X, hX⟩ : ∃ X, z ++ tabs (vals.take k) = X := ⟨_, rfl⟩
        have hXl : X.length ≤ 340 := by rw [← hX]; have := HT.out k; simp; omega
        have HXn := Lib.hid (show z ++ tabs (vals.take (k + 1)) = X ++ ([9] ++ u) by rw [← hX, List.take_succ_eq_append_getElem hlt, hu, tabs_snoc]; simp)
        rw [hX]
        have n1 : ¬ 9223372036854775807 < 1 + u.length := by omega
        have n2 : ¬ 9223372036854775807 < X.length + (u.length + 1) := by omega
        have n3 : ¬ 9223372036854775807 < X.length + (1 + u.length) := by omega
        have n4 : ¬ 9223372036854775807 < u.length + 1 := by omega
        clear hc hu hX
        go_wp2_with fail
        go_roundw
        case rel => exact ⟨k + 1, by omega, by go_num, by rw [HXn.out]; simp, trivial⟩
        case measure => simp [intOf]; omega
      · have hq : decide ((k : Int) < vals.length) = false := by simp; omega
        obtain rfl : k = vals.length := by omega
        rw [List.take_length, ← HZ.out]
        go_wp2_with fail
        go_ret
        exact ⟨rfl, HBq.out⟩
end
section
set_option maxRecDepth 100000
open Go.RowKit Cal
attribute [local go_sem] toList_mk mk_size
structure RcAt (b : Nat) (vf vt vn vs id ver sv : Value) (w : World) : Prop where
  s : w.heap[b]? = some (.cells #[vf, vt, vn, vs] 33 (0, 0))
  r : w.heap[b + 1]? = some (.cells #[id, ver, sv] 48 (0, 0))
theorem RcAt.below {b : Nat} {vf vt vn vs id ver sv : Value} {w w' : World} (h : RcAt b vf vt vn vs id ver sv w) (hb : Below w.heap.size w w') : RcAt b vf vt vn vs id ver sv w' :=
  ⟨blk_below hb (lt_of_blk h.s) h.s, blk_below hb (lt_of_blk h.r) h.r⟩
theorem checkI_no {s : SchemaL} {r : RecL} (h : ¬ (1 ≤ r.id ∧ r.id ≤ 1048576 ∧ 1 ≤ r.ver ∧ r.ver ≤ 1048576 ∧ r.vals.length = s.fields.length)) : checkI s r = 7 := by
  unfold checkI numberedB
  rw [if_neg]
  simp only [Bool.and_eq_true, decide_eq_true_eq, beq_iff_eq]
  intro hh
  exact h ⟨hh.1.1.1.1.1, hh.1.1.1.1.2, hh.1.1.1.2, hh.1.1.2, hh.1.2⟩
theorem checkI_norm {s : SchemaL} {r : RecL} (h : 1 ≤ r.id ∧ r.id ≤ 1048576 ∧ 1 ≤ r.ver ∧ r.ver ≤ 1048576 ∧ r.vals.length = s.fields.length) : checkI s r = if normA s 0 r.vals = true then 0 else 7 := by
  unfold checkI numberedB
  simp [h]
theorem normA_no {s : SchemaL} {L : List (List UInt8)} {k : Nat} (hk : k < L.length) (h : normalB s k L[k] = false) : normA s 0 L = false := by
  cases hh : normA s 0 L with
  | false => rfl
  | true =>
    have := normA_get s L 0 hh k hk
    rw [Nat.zero_add, show L.getD k [] = L[k] by simp [List.getD, hk], h] at this
    cases this
set_option maxHeartbeats 8000000 in
theorem rrcheck_any (S T : Nat → Prop) (vf vt vn vs : Value) (s : SchemaL) (r : RecL) (sv : Value) (w : World) (h : SchemaAt w S vf vt vn vs s) (hv : Vec w T 1 encS sv r.vals) (hs : ∀ x ∈ r.vals, x.length ≤ 1000000) (hn : r.vals.length ≤ 1000000) :
    Calls Tryz.prog 33 #[.agg #[vf, vt, vn, vs], .agg #[.int .i64 r.id, .int .i64 r.ver, sv]] w fun e w' => e = .returned (.int .i64 (checkN s r)) ∧ Below w.heap.size w w' := by
  obtain ⟨c, hc⟩ : ∃ c, checkN s r = c := ⟨_, rfl⟩
  obtain ⟨d, hd⟩ : ∃ d, checkS s = d := ⟨_, rfl⟩
  have hval := hc
  unfold checkN at hval
  rw [hd] at hval
  rw [hc]
  obtain ⟨af, cf, rfl⟩ := h.1.slice
  obtain ⟨a, cap, rfl⟩ := hv.slice
  obtain ⟨id, ver, vals⟩ := r
  dsimp only at hv hs hn ⊢
  have HV := Lib.hid hv.any; have HS := Lib.hid h.any; have HVal := Lib.hid hval; have HD := Lib.hid hd; have HSh := Lib.hid hs
  clear hv h hval hc hd hs
  go_enter Tryz.func33, Tryz.ntmps33
  go_wp2_with fail
  refine wp_calls_world (fun W hW => ?_)
  have hb0 : Below w.heap.size w W := by rw [hW]; exact ((Below.refl w.heap.size w).alloc (Nat.le_refl _) _).alloc (by simp) _
  have k0 : RcAt w.heap.size (.slice af s.fields.length cf) vt vn vs (.int .i64 id) (.int .i64 ver) (.slice a vals.length cap) W := by rw [hW]; exact ⟨blk_old (blk_new rfl), blk_new (by simp)⟩
  clear hW
  refine (rscheck_any Any1 _ _ _ _ s _ (HS.out.below hb0)).mono ?_
  rw [HD.out]
  rintro e w1 ⟨rfl, hb⟩
  have K1 := Lib.hid (k0.below hb); have HB1 := Lib.hid (hb0.trans (hb.mono hb0.size))
  clear hb hb0 k0
  obtain ⟨s0, s1, s2, s3⟩ := cellsS K1.out.s; obtain ⟨r0, r1, r2⟩ := cells3 K1.out.r
  have ls := lt_of_blk K1.out.s; have lr := lt_of_blk K1.out.r
  by_cases h0 : d = 0
  · subst h0
    have HV2 := HVal.out
    rw [if_pos rfl] at HV2
    have HI := Lib.hid HV2
    have dz : ((0 : Int) != 0) = false := rfl
    clear HV2 HVal
    by_cases hin : 1 ≤ id ∧ id ≤ 1048576 ∧ 1 ≤ ver ∧ ver ≤ 1048576 ∧ vals.length = s.fields.length
    · have hck := checkI_norm (r := ⟨id, ver, vals⟩) hin
      rw [HI.out] at hck
      have HCk := Lib.hid hck
      obtain ⟨i1, i2, i3, i4, i5⟩ := hin
      have e1 : decide (id < (1 : Int)) = false := by simp; omega
      have e2 : decide ((1048576 : Int) < id) = false := by simp; omega
      have e3 : decide (ver < (1 : Int)) = false := by simp; omega
      have e4 : decide ((1048576 : Int) < ver) = false := by simp; omega
      have e5 : ((vals.length : Int) != (s.fields.length : Int)) = false := by rw [i5]; simp
      clear i1 i2 i3 i4 i5 hck
      go_wp2_with fail
      clear s0 s1 s2 s3 r0 r1 r2 e1 e2 e3 e4 e5
      go_loopw [6] (fun t wr => ∃ k : Nat, k ≤ vals.length ∧ t = .int .i64 k ∧ Hid (∀ j (hj : j < k) (hl : j < vals.length), normalB s j vals[j] = true) ∧ Below w1.heap.size w1 wr) (fun t _ => vals.length - (intOf t).toNat)
      case atStart => exact ⟨0, by omega, rfl, Lib.hid fun j hj => by omega, Below.refl _ _⟩
      case round =>
        obtain ⟨k, hk, rfl, HN, hbw⟩ := hrel
        have Kw := Lib.hid (K1.out.below hbw); have HBw := Lib.hid (HB1.out.trans (hbw.mono HB1.out.size)); have Hbw := Lib.hid hbw
        clear hbw
        obtain ⟨s0, s1, s2, s3⟩ := cellsS Kw.out.s; obtain ⟨r0, r1, r2⟩ := cells3 Kw.out.r
        have ls := lt_of_blk Kw.out.s; have lr := lt_of_blk Kw.out.r
        by_cases hlt : k < vals.length
        · have hq : decide ((k : Int) < vals.length) = true := by simp; omega
          have hki : (k : Int) < (vals.length : Int) := by omega
          obtain ⟨u, hu⟩ : ∃ u, vals[k] = u := ⟨_, rfl⟩
          have hul : u.length ≤ 1000000 := HSh.out u (by rw [← hu]; exact List.getElem_mem _)
          obtain ⟨b, off, rfl, hb, hcc⟩ := (HV.out.below HBw.out).get k hlt
          have d0 := hcc 0 _ rfl
          rw [Nat.mul_one, Nat.add_zero, hu] at d0
          have lb : b < wr.heap.size := hb
          have HU := Lib.hid hu
          obtain ⟨nb, hnb⟩ : ∃ nb, normalB s k u = nb := ⟨_, rfl⟩
          have HNb := Lib.hid hnb
          have bD : Below wr.heap.size wr wr.drew := (Below.refl _ _).drew
          clear hcc hu hnb hb
          go_wp2_with fail
          refine wp_region_noPanic ?_
          refine wp_region_held_drew (S := (fun w' => w'.cell? ⟨w.heap.size, 0, none⟩ = some (.slice af s.fields.length cf) ∧ w'.cell? ⟨w.heap.size, 1, none⟩ = some vt ∧ w'.cell? ⟨w.heap.size, 2, none⟩ = some vn ∧ w'.cell? ⟨w.heap.size, 3, none⟩ = some vs ∧ w'.cell? ⟨w.heap.size + 1, 2, none⟩ = some (.slice (some ⟨b, off, none⟩) vals.length cap) ∧ w'.cell? ⟨b, off + k, none⟩ = some (strV u))) (by kernel_rfl) (⟨s0, s1, s2, s3, r2, d0⟩) (fun hHeld => ?_)
          refine tH 0 (h := ?_)
          try simp only [List.getElem_toArray, List.getElem_cons_zero, List.getElem_cons_succ, Act.put, List.setIfInBounds_toArray, List.set_cons_zero, List.set_cons_succ]
          refine tH 1 (h := ?_)
          try simp only [List.getElem_toArray, List.getElem_cons_zero, List.getElem_cons_succ, Act.put, List.setIfInBounds_toArray, List.set_cons_zero, List.set_cons_succ]
          refine tH 2 (h := ?_)
          try simp only [List.getElem_toArray, List.getElem_cons_zero, List.getElem_cons_succ, Act.put, List.setIfInBounds_toArray, List.set_cons_zero, List.set_cons_succ]
          refine tH 3 (h := ?_)
          try simp only [List.getElem_toArray, List.getElem_cons_zero, List.getElem_cons_succ, Act.put, List.setIfInBounds_toArray, List.set_cons_zero, List.set_cons_succ]
          refine tH 4 (h := ?_)
          try simp only [List.getElem_toArray, List.getElem_cons_zero, List.getElem_cons_succ, Act.put, List.setIfInBounds_toArray, List.set_cons_zero, List.set_cons_succ]
          refine tH 5 (h := ?_)
          try simp only [List.getElem_toArray, List.getElem_cons_zero, List.getElem_cons_succ, Act.put, List.setIfInBounds_toArray, List.set_cons_zero, List.set_cons_succ]
          refine tH 6 (h := ?_)
          try simp only [List.getElem_toArray, List.getElem_cons_zero, List.getElem_cons_succ, Act.put, List.setIfInBounds_toArray, List.set_cons_zero, List.set_cons_succ]
          refine wpAnyH_ready (rs := [7]) (by kernel_rfl) (by simp) ?_
          refine AllReadyH.cons rfl (fun K hK => ?_) AllReadyH.nil
          go_simp
          refine (rsnormal_any Any1 _ vt vn vs s k ⟨u.toArray⟩ _ ((HS.out.below HBw.out).below bD) (by rw [mk_size]; omega)).mono ?_; rw [show (⟨u.toArray⟩ : ByteArray).data.toList = u by simp, HNb.out]; rintro e w2 ⟨rfl, hb2⟩; have b2 := bD.trans (hb2.mono bD.size); clear hb2
          refine hK.out _ _ (⟨(b2.cell (p := ⟨w.heap.size, 0, none⟩) ls).trans s0, (b2.cell (p := ⟨w.heap.size, 1, none⟩) ls).trans s1, (b2.cell (p := ⟨w.heap.size, 2, none⟩) ls).trans s2, (b2.cell (p := ⟨w.heap.size, 3, none⟩) ls).trans s3, (b2.cell (p := ⟨w.heap.size + 1, 2, none⟩) lr).trans r2, (b2.cell (p := ⟨b, off + k, none⟩) lb).trans d0⟩) (fun hHeld => ?_)
          clear hK K
          try simp only [List.getElem_toArray, List.getElem_cons_zero, List.getElem_cons_succ, Act.put, List.setIfInBounds_toArray, List.set_cons_zero, List.set_cons_succ]
          refine tH 8 (h := ?_)
          try simp only [List.getElem_toArray, List.getElem_cons_zero, List.getElem_cons_succ, Act.put, List.setIfInBounds_toArray, List.set_cons_zero, List.set_cons_succ]
          refine wpAnyH_done (by kernel_rfl) ?_ _
          refine NoPanic.normal ?_
          have HB2 := Lib.hid (Hbw.out.trans (b2.mono Hbw.out.size))
          have HBf := Lib.hid (HBw.out.trans (b2.mono HBw.out.size))
          clear hHeld s0 s1 s2 s3 r0 r1 r2 d0 b2
          cases nb with
          | true =>
            go_wp2_with fail
            go_roundw
            case rel =>
              refine ⟨k + 1, by omega, by go_num, Lib.hid fun j hj hl => ?_, HB2.out⟩
              by_cases hjk : j = k
              · subst hjk; rw [HU.out]; exact HNb.out
              · exact HN.out j (by omega) hl
            case measure => simp [intOf]; omega
          | false =>
            have hc7 : c = 7 := by rw [HCk.out, normA_no hlt (by rw [HU.out]; exact HNb.out)]; rfl
            subst hc7
            go_wp2_with fail
            go_ret
            exact ⟨rfl, HBf.out⟩
        · have hq : decide ((k : Int) < vals.length) = false := by simp; omega
          obtain rfl : k = vals.length := by omega
          have hc0 : c = 0 := by
            rw [HCk.out, normA_of s vals 0 fun j hj => by rw [Nat.zero_add, show vals.getD j [] = vals[j] by simp [List.getD, hj]]; exact HN.out j hj hj]; rfl
          subst hc0
          go_wp2_with fail
          go_ret
          exact ⟨rfl, HBw.out⟩
    · have hc7 : c = 7 := by rw [← HI.out]; exact checkI_no hin
      subst hc7
      clear HI
      by_cases i1 : id < 1
      · have e1 : decide (id < (1 : Int)) = true := by simpa using i1
        go_wp2_with fail
        go_ret
        exact ⟨rfl, HB1.out⟩
      have e1 : decide (id < (1 : Int)) = false := by simpa using i1
      by_cases i2 : 1048576 < id
      · have e2 : decide ((1048576 : Int) < id) = true := by simpa using i2
        go_wp2_with fail
        go_ret
        exact ⟨rfl, HB1.out⟩
      have e2 : decide ((1048576 : Int) < id) = false := by simpa using i2
      by_cases i3 : ver < 1
      · have e3 : decide (ver < (1 : Int)) = true := by simpa using i3
        go_wp2_with fail
        go_ret
        exact ⟨rfl, HB1.out⟩
      have e3 : decide (ver < (1 : Int)) = false := by simpa using i3
      by_cases i4 : 1048576 < ver
      · have e4 : decide ((1048576 : Int) < ver) = true := by simpa using i4
        go_wp2_with fail
        go_ret
        exact ⟨rfl, HB1.out⟩
      have e4 : decide ((1048576 : Int) < ver) = false := by simpa using i4
      have e5 : ((vals.length : Int) != (s.fields.length : Int)) = true := by simp; omega
      clear i1 i2 i3 i4 hin
      go_wp2_with fail
      go_ret
      exact ⟨rfl, HB1.out⟩
  · have h1 : d = c := by have := HVal.out; rwa [if_neg h0] at this
    subst h1
    have hne : (d != 0) = true := by simpa using h0
    clear h0
    go_wp2_with fail
    go_ret
    exact ⟨rfl, HB1.out⟩
end
end Go.Proofs.YtoeplomdcannlaaGreatDoor
