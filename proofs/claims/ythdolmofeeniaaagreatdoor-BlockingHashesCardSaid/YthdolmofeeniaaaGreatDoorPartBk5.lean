/- Parts of one proof: RecAll, BlkN, BlkO, KeyPlain, MakeB, MakeZZ, Drawn, DeckKeys, BlkP, BlkAwake, DeckKey, RefTextA, RefTextB, FoldPlain, RefTextC, RefTextD. -/
import Derived.Test.YthdolmofeeniaaaGreatDoorPartBk4
section
/- record, the program's: All. -/
set_option linter.unusedSimpArgs false
set_option linter.unusedVariables false
set_option maxRecDepth 100000
namespace Go.Proofs.YthdolmofeeniaaaGreatDoor
open Go.RowKit
structure RV where
  id : Int
  ver : Int
  a : Option Addr
  n : Nat
  c : Nat
  vals : List (List UInt8)
abbrev encRV (x : RV) : List Value := [.int .i64 x.id, .int .i64 x.ver, .slice x.a x.n x.c]
def pR (x : RV) : RecL := ⟨x.id, x.ver, x.vals⟩
/-- records in memory -/
def RecsVec (w : World) (S : Nat → Prop) (v : Value) (R : List RecL) : Prop := ∃ C : List RV, Vec w S 3 encRV v C ∧ C.map pR = R ∧ ∀ x ∈ C, Vec w S 1 encS (.slice x.a x.n x.c) x.vals
theorem RecsVec.move {w w' : World} {S T : Nat → Prop} {v : Value} {R : List RecL} (h : RecsVec w S v R) (hz : w.heap.size ≤ w'.heap.size) (hS : ∀ x, x < w.heap.size → S x → w'.heap[x]? = w.heap[x]? ∧ T x) : RecsVec w' T v R := by
  obtain ⟨C, h1, h2, h3⟩ := h
  exact ⟨C, h1.move hz hS, h2, fun x hx => (h3 x hx).move hz hS⟩
theorem RecsVec.below {w w' : World} {S : Nat → Prop} {v : Value} {R : List RecL} (h : RecsVec w S v R) (hb : Below w.heap.size w w') : RecsVec w' S v R := h.move hb.size fun x hx hs => ⟨hb.block x hx, hs⟩
theorem RecsVec.any {w : World} {S : Nat → Prop} {v : Value} {R : List RecL} (h : RecsVec w S v R) : RecsVec w Any1 v R := h.move (Nat.le_refl _) fun x hx hs => ⟨rfl, trivial⟩
theorem RecsVec.slice {w : World} {S : Nat → Prop} {v : Value} {R : List RecL} (h : RecsVec w S v R) : ∃ a cap, v = .slice a R.length cap := by
  obtain ⟨C, h1, h2, _⟩ := h
  obtain ⟨a, cap, rfl⟩ := h1.slice
  exact ⟨a, cap, by rw [← h2, List.length_map]⟩
theorem RecsVec.at {w : World} {S : Nat → Prop} {a : Option Addr} {n cap : Nat} {R : List RecL} (h : RecsVec w S (.slice a n cap) R) (j : Nat) (hj : j < R.length) :
    ∃ (b off : Nat) (id ver : Int) (aa : Option Addr) (nn cc : Nat) (vals : List (List UInt8)), a = some ⟨b, off, none⟩ ∧ b < w.heap.size ∧ w.cell? ⟨b, off + j * 3, none⟩ = some (.int .i64 id) ∧ w.cell? ⟨b, off + j * 3 + 1, none⟩ = some (.int .i64 ver) ∧ w.cell? ⟨b, off + j * 3 + 2, none⟩ = some (.slice aa nn cc) ∧ R[j] = ⟨id, ver, vals⟩ ∧ Vec w S 1 encS (.slice aa nn cc) vals := by
  obtain ⟨C, h1, h2, h3⟩ := h
  have hj2 : j < C.length := by rw [← h2, List.length_map] at hj; exact hj
  obtain ⟨b, off, e, hb, hc⟩ := h1.get j hj2
  refine ⟨b, off, C[j].id, C[j].ver, C[j].a, C[j].n, C[j].c, C[j].vals, e, hb, hc 0 _ rfl, hc 1 _ rfl, hc 2 _ rfl, ?_, h3 _ (List.getElem_mem hj2)⟩
  subst h2
  rw [List.getElem_map]; rfl
/-- an ID that is not behind the one before -/
def notB : Option Int → Int → Bool
  | some q, x => decide (x ≤ q)
  | none, _ => false
/-- the first error of a list, behind a record with an ID -/
def allA (s : SchemaL) : Option Int → List RecL → Int
  | _, [] => 0
  | p, r :: R => if checkI s r = 0 then (if notB p r.id = true then 12 else allA s (some r.id) R) else checkI s r
theorem allA_cons (s : SchemaL) (p : Option Int) (r : RecL) (R : List RecL) : allA s p (r :: R) = if checkI s r = 0 then (if notB p r.id = true then 12 else allA s (some r.id) R) else checkI s r := rfl
def allN (s : SchemaL) (R : List RecL) : Int := if checkS s = 0 then (if R.length ≤ 64 then allA s none R else 1) else checkS s
def prevR (R : List RecL) (j : Nat) : Option Int := if j = 0 then none else some (R.getD (j - 1) noRec).id
theorem allA_yes {s : SchemaL} : ∀ (R : List RecL) (p : Option Int), (∀ r ∈ R, checkI s r = 0) → (∀ q r, p = some q → R.head? = some r → q < r.id) → (∀ j (h : j + 1 < R.length), (R[j]'(by omega)).id < R[j + 1].id) → allA s p R = 0
  | [], p, _, _, _ => rfl
  | r :: R, p, h1, h2, h3 => by
    unfold allA
    rw [if_pos (h1 r List.mem_cons_self), if_neg]
    · refine allA_yes R (some r.id) (fun x hx => h1 x (List.mem_cons_of_mem _ hx)) (fun q x hq hx => ?_) (fun j h => h3 (j + 1) (by simpa using h))
      cases hq
      cases R with
      | nil => cases hx
      | cons y R => cases hx; exact h3 0 (by simp)
    · cases p with
      | none => simp [notB]
      | some q =>
        have := h2 q r rfl rfl
        simp [notB]; omega
set_option maxHeartbeats 4000000 in
theorem rall_any (S T : Nat → Prop) (vf vt vn vs rv : Value) (s : SchemaL) (R : List RecL) (w : World) (h : SchemaAt w S vf vt vn vs s) (hr : RecsVec w T rv R) (hl : ∀ r ∈ R, ∀ x ∈ r.vals, x.length ≤ 1000000) (hn : ∀ r ∈ R, r.vals.length ≤ 1000000) (hR : R.length ≤ 1000000) :
    Calls Tryz.prog 43 #[.agg #[vf, vt, vn, vs], rv] w fun e w' => e = .returned (.int .i64 (allN s R)) ∧ Below w.heap.size w w' := by
  obtain ⟨ar, cr, rfl⟩ := hr.slice
  have HS := Lib.hid h; have HR := Lib.hid hr.any; have HL := Lib.hid hl; have HN := Lib.hid hn
  obtain ⟨E, hE⟩ : ∃ E, allN s R = E := ⟨_, rfl⟩
  rw [hE]
  have HE := Lib.hid hE
  clear h hr hl hn hE
  go_enter Tryz.func43, Tryz.ntmps43
  go_wp2_with fail
  refine wp_calls_world (fun W hW => ?_)
  have hb0 : Below w.heap.size w W := by rw [hW]; exact (Below.refl w.heap.size w).alloc (Nat.le_refl _) _
  have hs0 : W.heap[w.heap.size]? = some (.cells #[vf, vt, vn, vs] 33 (0, 0)) := by rw [hW]; exact blk_new rfl
  clear hW
  refine (scheck_any S _ _ _ _ s W (HS.out.below hb0)).mono ?_
  rintro e w1 ⟨rfl, hb⟩
  have hs1 := blk_below hb (lt_of_blk hs0) hs0
  have HB1 := Lib.hid (hb0.trans (hb.mono hb0.size)); have HS1 := Lib.hid hs1
  clear hb hb0 hs0 hs1
  obtain ⟨c, hc⟩ : ∃ c, checkS s = c := ⟨_, rfl⟩
  rw [hc]
  by_cases hc0 : c = 0
  · subst hc0
    have dz : ((0 : Int) != 0) = false := rfl
    by_cases h64 : R.length ≤ 64
    · have d64 : decide ((64 : Int) < (R.length : Int)) = false := by simp; omega
      have HE2 := Lib.hid (show allA s none R = E by rw [← HE.out]; unfold allN; rw [if_pos hc, if_pos h64])
      clear hc HE
      go_wp2_with fail
      go_loopw [19] (fun t wr => ∃ j : Nat, t = .int .i64 j ∧ j ≤ R.length ∧ Hid (allA s (prevR R j) (R.drop j) = E) ∧ Below w1.heap.size w1 wr) (fun t _ => R.length - (intOf t).toNat)
      case atStart => exact ⟨0, rfl, by omega, HE2, Below.refl _ _⟩
      case round =>
        obtain ⟨j, rfl, hj, HT, hbw⟩ := hrel
        have HBW := Lib.hid hbw
        by_cases hlt : j < R.length
        · have hq : decide ((j : Int) < (R.length : Int)) = true := by simp; omega
          have hji : (j : Int) < (R.length : Int) := by omega
          have hbw0 := HB1.out.trans (hbw.mono HB1.out.size)
          obtain ⟨b, off, id, ver, aa, nn, cc, vals, rfl, lb, c0, c1, c2, hRj, hvv⟩ := (HR.out.below hbw0).at j hlt
          obtain ⟨s0, s1, s2, s3⟩ := cellsS (blk_below hbw (lt_of_blk HS1.out) HS1.out)
          have lsr : w.heap.size < wr.heap.size := by have := lt_of_blk HS1.out; have := hbw.size; omega
          have hT := HT.out
          rw [List.drop_eq_getElem_cons hlt, allA_cons] at hT
          have hmem : R[j] ∈ R := List.getElem_mem hlt
          have HLv := Lib.hid (HL.out _ hmem); have HNv := HN.out _ hmem
          have HP := Lib.hid (show j ≠ 0 → ∃ pid : Int, prevR R j = some pid ∧ wr.cell? ⟨b, off + (j - 1) * 3, none⟩ = some (.int .i64 pid) from fun h0 => by
            obtain ⟨b', off', id', ver', aa', nn', cc', vals', he, _, d0, _, _, hR', _⟩ := (HR.out.below hbw0).at (j - 1) (by omega)
            cases he
            refine ⟨id', ?_, d0⟩
            unfold prevR
            rw [if_neg h0, getD_at _ _ (by omega), hR'])
          rw [hRj] at hT HLv HNv
          have HRJ := Lib.hid hRj; have HV := Lib.hid hvv; have HT2 := Lib.hid hT
          clear hT hmem hRj hvv HT hbw
          dsimp only at HLv HNv
          have hvl := HV.out.len.1
          subst hvl
          obtain ⟨ci, hci⟩ : ∃ ci, checkI s ⟨id, ver, vals⟩ = ci := ⟨_, rfl⟩
          go_wp2_with fail
          refine wp_calls_world (fun Wc hWc => ?_)
          have hbc : Below wr.heap.size wr Wc := by rw [hWc]; exact (Below.refl wr.heap.size wr).alloc (Nat.le_refl _) _
          have hy : Wc.heap[wr.heap.size]? = some (.cells #[.int .i64 id, .int .i64 ver, .slice aa vals.length cc] 42 (0, 0)) := by rw [hWc]; exact blk_new rfl
          clear hWc
          refine (rchk_any S _ _ _ _ s ⟨id, ver, vals⟩ _ Wc ((HS.out.below hbw0).below hbc) (HV.out.below hbc) HLv.out HNv).mono ?_
          rw [hci]
          rintro e w2 ⟨rfl, hb⟩
          have hbr := hbc.trans (hb.mono hbc.size)
          have hy2 := blk_below hb (lt_of_blk hy) hy
          have HB2 := Lib.hid (HBW.out.trans (hbr.mono HBW.out.size))
          obtain ⟨r0, r1, r2⟩ := cells3 hy2
          have ly := lt_of_blk hy2
          have HBR := Lib.hid hbr
          clear hb hbc hy hy2 hbr s0 s1 s2 s3 c0 c1 c2
          by_cases hci0 : ci = 0
          · subst hci0
            have hT3 := HT2.out
            rw [hci, if_pos rfl] at hT3
            have HT3 := Lib.hid hT3
            clear hT3 HT2 hci
            by_cases hj0 : j = 0
            · have dj : decide (0 < j) = false := by simp; omega
              have HT4 := Lib.hid (show allA s (prevR R (j + 1)) (R.drop (j + 1)) = E by
                have := HT3.out
                rw [show prevR R j = none by unfold prevR; rw [if_pos hj0]] at this
                rw [← this]
                unfold prevR
                rw [if_neg (by omega), show j + 1 - 1 = j by omega, getD_at _ _ hlt, HRJ.out]; rfl)
              clear HT3 HP
              go_upto_region 12 with fail
              refine wp_region_noPanic ?_
              refine wp_region_held_drew (S := (fun w' => True)) (by kernel_rfl) (trivial) (fun hHeld => ?_)
              refine wpAnyH_take (i := 0) (v := ?_) rfl (by kernel_rfl) (by kernel_rfl) (by kernel_rfl) (fun _ _ _ h => h) (Or.inl ⟨by rfl, ?_⟩) (by assumption) ?_
              rotate_left 1
              · (intro wS hSw; (try dsimp only at hSw); go_simp; try with_reducible rfl)
              try simp only [List.getElem_toArray, List.getElem_cons_zero, List.getElem_cons_succ, Act.put, List.setIfInBounds_toArray, List.set_cons_zero, List.set_cons_succ]
              refine wpAnyH_take (i := 1) (v := ?_) rfl (by kernel_rfl) (by kernel_rfl) (by kernel_rfl) (fun _ _ _ h => h) (Or.inl ⟨by rfl, ?_⟩) (by assumption) ?_
              rotate_left 1
              · (intro wS hSw; (try dsimp only at hSw); go_simp; try with_reducible rfl)
              try simp only [List.getElem_toArray, List.getElem_cons_zero, List.getElem_cons_succ, Act.put, List.setIfInBounds_toArray, List.set_cons_zero, List.set_cons_succ]
              refine wpAnyH_take (i := 2) (v := ?_) rfl (by kernel_rfl) (by kernel_rfl) (by kernel_rfl) (fun _ _ _ h => h) (Or.inl ⟨by rfl, ?_⟩) (by assumption) ?_
              rotate_left 1
              · (intro wS hSw; (try dsimp only at hSw); go_simp; try with_reducible rfl)
              try simp only [List.getElem_toArray, List.getElem_cons_zero, List.getElem_cons_succ, Act.put, List.setIfInBounds_toArray, List.set_cons_zero, List.set_cons_succ]
              refine wpAnyH_take (i := 3) (v := undef) rfl (by kernel_rfl) (by kernel_rfl) (by kernel_rfl) (fun _ _ _ h => h) (Or.inr ⟨by rfl, rfl⟩) (by assumption) ?_
              try simp only [List.getElem_toArray, List.getElem_cons_zero, List.getElem_cons_succ, Act.put, List.setIfInBounds_toArray, List.set_cons_zero, List.set_cons_succ]
              refine wpAnyH_take (i := 4) (v := undef) rfl (by kernel_rfl) (by kernel_rfl) (by kernel_rfl) (fun _ _ _ h => h) (Or.inr ⟨by rfl, rfl⟩) (by assumption) ?_
              try simp only [List.getElem_toArray, List.getElem_cons_zero, List.getElem_cons_succ, Act.put, List.setIfInBounds_toArray, List.set_cons_zero, List.set_cons_succ]
              refine wpAnyH_take (i := 5) (v := undef) rfl (by kernel_rfl) (by kernel_rfl) (by kernel_rfl) (fun _ _ _ h => h) (Or.inr ⟨by rfl, rfl⟩) (by assumption) ?_
              try simp only [List.getElem_toArray, List.getElem_cons_zero, List.getElem_cons_succ, Act.put, List.setIfInBounds_toArray, List.set_cons_zero, List.set_cons_succ]
              refine wpAnyH_take (i := 6) (v := undef) rfl (by kernel_rfl) (by kernel_rfl) (by kernel_rfl) (fun _ _ _ h => h) (Or.inr ⟨by rfl, rfl⟩) (by assumption) ?_
              try simp only [List.getElem_toArray, List.getElem_cons_zero, List.getElem_cons_succ, Act.put, List.setIfInBounds_toArray, List.set_cons_zero, List.set_cons_succ]
              refine wpAnyH_take (i := 7) (v := undef) rfl (by kernel_rfl) (by kernel_rfl) (by kernel_rfl) (fun _ _ _ h => h) (Or.inr ⟨by rfl, rfl⟩) (by assumption) ?_
              try simp only [List.getElem_toArray, List.getElem_cons_zero, List.getElem_cons_succ, Act.put, List.setIfInBounds_toArray, List.set_cons_zero, List.set_cons_succ]
              refine wpAnyH_take (i := 8) (v := undef) rfl (by kernel_rfl) (by kernel_rfl) (by kernel_rfl) (fun _ _ _ h => h) (Or.inr ⟨by rfl, rfl⟩) (by assumption) ?_
              try simp only [List.getElem_toArray, List.getElem_cons_zero, List.getElem_cons_succ, Act.put, List.setIfInBounds_toArray, List.set_cons_zero, List.set_cons_succ]
              refine wpAnyH_take (i := 9) (v := undef) rfl (by kernel_rfl) (by kernel_rfl) (by kernel_rfl) (fun _ _ _ h => h) (Or.inr ⟨by rfl, rfl⟩) (by assumption) ?_
              try simp only [List.getElem_toArray, List.getElem_cons_zero, List.getElem_cons_succ, Act.put, List.setIfInBounds_toArray, List.set_cons_zero, List.set_cons_succ]
              refine wpAnyH_take (i := 10) (v := undef) rfl (by kernel_rfl) (by kernel_rfl) (by kernel_rfl) (fun _ _ _ h => h) (Or.inr ⟨by rfl, rfl⟩) (by assumption) ?_
              try simp only [List.getElem_toArray, List.getElem_cons_zero, List.getElem_cons_succ, Act.put, List.setIfInBounds_toArray, List.set_cons_zero, List.set_cons_succ]
              refine wpAnyH_take (i := 11) (v := undef) rfl (by kernel_rfl) (by kernel_rfl) (by kernel_rfl) (fun _ _ _ h => h) (Or.inr ⟨by rfl, rfl⟩) (by assumption) ?_
              try simp only [List.getElem_toArray, List.getElem_cons_zero, List.getElem_cons_succ, Act.put, List.setIfInBounds_toArray, List.set_cons_zero, List.set_cons_succ]
              refine wpAnyH_take (i := 12) (v := ?_) rfl (by kernel_rfl) (by kernel_rfl) (by kernel_rfl) (fun _ _ _ h => h) (Or.inl ⟨by rfl, ?_⟩) (by assumption) ?_
              rotate_left 1
              · (intro wS hSw; (try dsimp only at hSw); go_simp; try with_reducible rfl)
              try simp only [List.getElem_toArray, List.getElem_cons_zero, List.getElem_cons_succ, Act.put, List.setIfInBounds_toArray, List.set_cons_zero, List.set_cons_succ]
              refine wpAnyH_done (by kernel_rfl) ?_ _
              refine NoPanic.normal ?_
              go_wp2_with fail
              go_roundw
              case rel => exact ⟨j + 1, by go_num, by omega, HT4, HB2.out.drew⟩
              case measure => simp [intOf]; omega
            · have dj : decide (0 < j) = true := by simp; omega
              obtain ⟨pid, hpr, hpc⟩ := HP.out hj0
              have hpc2 := (HBR.out.cell (p := ⟨b, off + (j - 1) * 3, none⟩) lb).trans hpc
              have hj1 : (j : Int) - 1 < (R.length : Int) := by omega
              have hj2 : (1 : Int) ≤ (j : Int) := by omega
              have hj3 : ((j : Int) - 1).toNat = j - 1 := by omega
              have hwr : IntKind.i64.wrap ((j : Int) - 1) = (j : Int) - 1 := by rw [IntKind.wrap_i64]; omega
              have hT4 := HT3.out
              rw [hpr] at hT4
              clear HP hpc HT3
              by_cases hle : id ≤ pid
              · have dle : decide (id ≤ pid) = true := by simpa using hle
                have hE12 : E = 12 := by rw [← hT4]; unfold notB; dsimp only; rw [if_pos dle]
                subst hE12
                clear hT4
                go_upto_region 12 with fail
                refine wp_region_noPanic ?_
                refine wp_region_held_drew (S := (fun w' => w'.cell? ⟨b, off + (j - 1) * 3, none⟩ = some (.int .i64 pid) ∧ w'.cell? ⟨wr.heap.size, 0, none⟩ = some (.int .i64 id))) (by kernel_rfl) (⟨hpc2, r0⟩) (fun hHeld => ?_)
                refine wpAnyH_take (i := 0) (v := ?_) rfl (by kernel_rfl) (by kernel_rfl) (by kernel_rfl) (fun _ _ _ h => h) (Or.inl ⟨by rfl, ?_⟩) (by assumption) ?_
                rotate_left 1
                · (intro wS hSw; (try dsimp only at hSw); go_simp; try with_reducible rfl)
                try simp only [List.getElem_toArray, List.getElem_cons_zero, List.getElem_cons_succ, Act.put, List.setIfInBounds_toArray, List.set_cons_zero, List.set_cons_succ]
                refine wpAnyH_take (i := 1) (v := ?_) rfl (by kernel_rfl) (by kernel_rfl) (by kernel_rfl) (fun _ _ _ h => h) (Or.inl ⟨by rfl, ?_⟩) (by assumption) ?_
                rotate_left 1
                · (intro wS hSw; (try dsimp only at hSw); go_simp; try with_reducible rfl)
                try simp only [List.getElem_toArray, List.getElem_cons_zero, List.getElem_cons_succ, Act.put, List.setIfInBounds_toArray, List.set_cons_zero, List.set_cons_succ]
                refine wpAnyH_take (i := 2) (v := ?_) rfl (by kernel_rfl) (by kernel_rfl) (by kernel_rfl) (fun _ _ _ h => h) (Or.inl ⟨by rfl, ?_⟩) (by assumption) ?_
                rotate_left 1
                · (intro wS hSw; (try dsimp only at hSw); go_simp; try with_reducible rfl)
                try simp only [List.getElem_toArray, List.getElem_cons_zero, List.getElem_cons_succ, Act.put, List.setIfInBounds_toArray, List.set_cons_zero, List.set_cons_succ]
                refine wpAnyH_take (i := 3) (v := ?_) rfl (by kernel_rfl) (by kernel_rfl) (by kernel_rfl) (fun _ _ _ h => h) (Or.inl ⟨by rfl, ?_⟩) (by assumption) ?_
                rotate_left 1
                · (intro wS hSw; (try dsimp only at hSw); go_simp; try with_reducible rfl)
                try simp only [List.getElem_toArray, List.getElem_cons_zero, List.getElem_cons_succ, Act.put, List.setIfInBounds_toArray, List.set_cons_zero, List.set_cons_succ]
                refine wpAnyH_take (i := 4) (v := ?_) rfl (by kernel_rfl) (by kernel_rfl) (by kernel_rfl) (fun _ _ _ h => h) (Or.inl ⟨by rfl, ?_⟩) (by assumption) ?_
                rotate_left 1
                · (intro wS hSw; (try dsimp only at hSw); go_simp; try with_reducible rfl)
                try simp only [List.getElem_toArray, List.getElem_cons_zero, List.getElem_cons_succ, Act.put, List.setIfInBounds_toArray, List.set_cons_zero, List.set_cons_succ]
                refine wpAnyH_take (i := 5) (v := ?_) rfl (by kernel_rfl) (by kernel_rfl) (by kernel_rfl) (fun _ _ _ h => h) (Or.inl ⟨by rfl, ?_⟩) (by assumption) ?_
                rotate_left 1
                · (intro wS hSw; (try dsimp only at hSw); go_simp; try with_reducible rfl)
                try simp only [List.getElem_toArray, List.getElem_cons_zero, List.getElem_cons_succ, Act.put, List.setIfInBounds_toArray, List.set_cons_zero, List.set_cons_succ]
                refine wpAnyH_take (i := 6) (v := ?_) rfl (by kernel_rfl) (by kernel_rfl) (by kernel_rfl) (fun _ _ _ h => h) (Or.inl ⟨by rfl, ?_⟩) (by assumption) ?_
                rotate_left 1
                · (intro wS hSw; (try dsimp only at hSw); go_simp; try with_reducible rfl)
                try simp only [List.getElem_toArray, List.getElem_cons_zero, List.getElem_cons_succ, Act.put, List.setIfInBounds_toArray, List.set_cons_zero, List.set_cons_succ]
                refine wpAnyH_take (i := 7) (v := ?_) rfl (by kernel_rfl) (by kernel_rfl) (by kernel_rfl) (fun _ _ _ h => h) (Or.inl ⟨by rfl, ?_⟩) (by assumption) ?_
                rotate_left 1
                · (intro wS hSw; (try dsimp only at hSw); go_simp; try with_reducible rfl)
                try simp only [List.getElem_toArray, List.getElem_cons_zero, List.getElem_cons_succ, Act.put, List.setIfInBounds_toArray, List.set_cons_zero, List.set_cons_succ]
                refine wpAnyH_take (i := 8) (v := ?_) rfl (by kernel_rfl) (by kernel_rfl) (by kernel_rfl) (fun _ _ _ h => h) (Or.inl ⟨by rfl, ?_⟩) (by assumption) ?_
                rotate_left 1
                · (intro wS hSw; (try dsimp only at hSw); go_simp; try with_reducible rfl)
                try simp only [List.getElem_toArray, List.getElem_cons_zero, List.getElem_cons_succ, Act.put, List.setIfInBounds_toArray, List.set_cons_zero, List.set_cons_succ]
                refine wpAnyH_take (i := 9) (v := ?_) rfl (by kernel_rfl) (by kernel_rfl) (by kernel_rfl) (fun _ _ _ h => h) (Or.inl ⟨by rfl, ?_⟩) (by assumption) ?_
                rotate_left 1
                · (intro wS hSw; (try dsimp only at hSw); go_simp; try with_reducible rfl)
                try simp only [List.getElem_toArray, List.getElem_cons_zero, List.getElem_cons_succ, Act.put, List.setIfInBounds_toArray, List.set_cons_zero, List.set_cons_succ]
                refine wpAnyH_take (i := 10) (v := ?_) rfl (by kernel_rfl) (by kernel_rfl) (by kernel_rfl) (fun _ _ _ h => h) (Or.inl ⟨by rfl, ?_⟩) (by assumption) ?_
                rotate_left 1
                · (intro wS hSw; (try dsimp only at hSw); go_simp; try with_reducible rfl)
                try simp only [List.getElem_toArray, List.getElem_cons_zero, List.getElem_cons_succ, Act.put, List.setIfInBounds_toArray, List.set_cons_zero, List.set_cons_succ]
                refine wpAnyH_take (i := 11) (v := ?_) rfl (by kernel_rfl) (by kernel_rfl) (by kernel_rfl) (fun _ _ _ h => h) (Or.inl ⟨by rfl, ?_⟩) (by assumption) ?_
                rotate_left 1
                · (intro wS hSw; (try dsimp only at hSw); go_simp; try with_reducible rfl)
                try simp only [List.getElem_toArray, List.getElem_cons_zero, List.getElem_cons_succ, Act.put, List.setIfInBounds_toArray, List.set_cons_zero, List.set_cons_succ]
                refine wpAnyH_take (i := 12) (v := ?_) rfl (by kernel_rfl) (by kernel_rfl) (by kernel_rfl) (fun _ _ _ h => h) (Or.inl ⟨by rfl, ?_⟩) (by assumption) ?_
                rotate_left 1
                · (intro wS hSw; (try dsimp only at hSw); go_simp; try with_reducible rfl)
                try simp only [List.getElem_toArray, List.getElem_cons_zero, List.getElem_cons_succ, Act.put, List.setIfInBounds_toArray, List.set_cons_zero, List.set_cons_succ]
                refine wpAnyH_done (by kernel_rfl) ?_ _
                refine NoPanic.normal ?_
                go_wp2_with fail
                go_ret
                exact ⟨rfl, HB1.out.trans (HB2.out.drew.mono HB1.out.size)⟩
              · have dle : decide (id ≤ pid) = false := by simpa using hle
                have HT5 := Lib.hid (show allA s (prevR R (j + 1)) (R.drop (j + 1)) = E by
                  rw [← hT4]
                  unfold notB; dsimp only
                  rw [if_neg (by rw [dle]; decide)]
                  unfold prevR
                  rw [if_neg (by omega), show j + 1 - 1 = j by omega, getD_at _ _ hlt, HRJ.out])
                clear hT4
                go_upto_region 12 with fail
                refine wp_region_noPanic ?_
                refine wp_region_held_drew (S := (fun w' => w'.cell? ⟨b, off + (j - 1) * 3, none⟩ = some (.int .i64 pid) ∧ w'.cell? ⟨wr.heap.size, 0, none⟩ = some (.int .i64 id))) (by kernel_rfl) (⟨hpc2, r0⟩) (fun hHeld => ?_)
                refine wpAnyH_take (i := 0) (v := ?_) rfl (by kernel_rfl) (by kernel_rfl) (by kernel_rfl) (fun _ _ _ h => h) (Or.inl ⟨by rfl, ?_⟩) (by assumption) ?_
                rotate_left 1
                · (intro wS hSw; (try dsimp only at hSw); go_simp; try with_reducible rfl)
                try simp only [List.getElem_toArray, List.getElem_cons_zero, List.getElem_cons_succ, Act.put, List.setIfInBounds_toArray, List.set_cons_zero, List.set_cons_succ]
                refine wpAnyH_take (i := 1) (v := ?_) rfl (by kernel_rfl) (by kernel_rfl) (by kernel_rfl) (fun _ _ _ h => h) (Or.inl ⟨by rfl, ?_⟩) (by assumption) ?_
                rotate_left 1
                · (intro wS hSw; (try dsimp only at hSw); go_simp; try with_reducible rfl)
                try simp only [List.getElem_toArray, List.getElem_cons_zero, List.getElem_cons_succ, Act.put, List.setIfInBounds_toArray, List.set_cons_zero, List.set_cons_succ]
                refine wpAnyH_take (i := 2) (v := ?_) rfl (by kernel_rfl) (by kernel_rfl) (by kernel_rfl) (fun _ _ _ h => h) (Or.inl ⟨by rfl, ?_⟩) (by assumption) ?_
                rotate_left 1
                · (intro wS hSw; (try dsimp only at hSw); go_simp; try with_reducible rfl)
                try simp only [List.getElem_toArray, List.getElem_cons_zero, List.getElem_cons_succ, Act.put, List.setIfInBounds_toArray, List.set_cons_zero, List.set_cons_succ]
                refine wpAnyH_take (i := 3) (v := ?_) rfl (by kernel_rfl) (by kernel_rfl) (by kernel_rfl) (fun _ _ _ h => h) (Or.inl ⟨by rfl, ?_⟩) (by assumption) ?_
                rotate_left 1
                · (intro wS hSw; (try dsimp only at hSw); go_simp; try with_reducible rfl)
                try simp only [List.getElem_toArray, List.getElem_cons_zero, List.getElem_cons_succ, Act.put, List.setIfInBounds_toArray, List.set_cons_zero, List.set_cons_succ]
                refine wpAnyH_take (i := 4) (v := ?_) rfl (by kernel_rfl) (by kernel_rfl) (by kernel_rfl) (fun _ _ _ h => h) (Or.inl ⟨by rfl, ?_⟩) (by assumption) ?_
                rotate_left 1
                · (intro wS hSw; (try dsimp only at hSw); go_simp; try with_reducible rfl)
                try simp only [List.getElem_toArray, List.getElem_cons_zero, List.getElem_cons_succ, Act.put, List.setIfInBounds_toArray, List.set_cons_zero, List.set_cons_succ]
                refine wpAnyH_take (i := 5) (v := ?_) rfl (by kernel_rfl) (by kernel_rfl) (by kernel_rfl) (fun _ _ _ h => h) (Or.inl ⟨by rfl, ?_⟩) (by assumption) ?_
                rotate_left 1
                · (intro wS hSw; (try dsimp only at hSw); go_simp; try with_reducible rfl)
                try simp only [List.getElem_toArray, List.getElem_cons_zero, List.getElem_cons_succ, Act.put, List.setIfInBounds_toArray, List.set_cons_zero, List.set_cons_succ]
                refine wpAnyH_take (i := 6) (v := ?_) rfl (by kernel_rfl) (by kernel_rfl) (by kernel_rfl) (fun _ _ _ h => h) (Or.inl ⟨by rfl, ?_⟩) (by assumption) ?_
                rotate_left 1
                · (intro wS hSw; (try dsimp only at hSw); go_simp; try with_reducible rfl)
                try simp only [List.getElem_toArray, List.getElem_cons_zero, List.getElem_cons_succ, Act.put, List.setIfInBounds_toArray, List.set_cons_zero, List.set_cons_succ]
                refine wpAnyH_take (i := 7) (v := ?_) rfl (by kernel_rfl) (by kernel_rfl) (by kernel_rfl) (fun _ _ _ h => h) (Or.inl ⟨by rfl, ?_⟩) (by assumption) ?_
                rotate_left 1
                · (intro wS hSw; (try dsimp only at hSw); go_simp; try with_reducible rfl)
                try simp only [List.getElem_toArray, List.getElem_cons_zero, List.getElem_cons_succ, Act.put, List.setIfInBounds_toArray, List.set_cons_zero, List.set_cons_succ]
                refine wpAnyH_take (i := 8) (v := ?_) rfl (by kernel_rfl) (by kernel_rfl) (by kernel_rfl) (fun _ _ _ h => h) (Or.inl ⟨by rfl, ?_⟩) (by assumption) ?_
                rotate_left 1
                · (intro wS hSw; (try dsimp only at hSw); go_simp; try with_reducible rfl)
                try simp only [List.getElem_toArray, List.getElem_cons_zero, List.getElem_cons_succ, Act.put, List.setIfInBounds_toArray, List.set_cons_zero, List.set_cons_succ]
                refine wpAnyH_take (i := 9) (v := ?_) rfl (by kernel_rfl) (by kernel_rfl) (by kernel_rfl) (fun _ _ _ h => h) (Or.inl ⟨by rfl, ?_⟩) (by assumption) ?_
                rotate_left 1
                · (intro wS hSw; (try dsimp only at hSw); go_simp; try with_reducible rfl)
                try simp only [List.getElem_toArray, List.getElem_cons_zero, List.getElem_cons_succ, Act.put, List.setIfInBounds_toArray, List.set_cons_zero, List.set_cons_succ]
                refine wpAnyH_take (i := 10) (v := ?_) rfl (by kernel_rfl) (by kernel_rfl) (by kernel_rfl) (fun _ _ _ h => h) (Or.inl ⟨by rfl, ?_⟩) (by assumption) ?_
                rotate_left 1
                · (intro wS hSw; (try dsimp only at hSw); go_simp; try with_reducible rfl)
                try simp only [List.getElem_toArray, List.getElem_cons_zero, List.getElem_cons_succ, Act.put, List.setIfInBounds_toArray, List.set_cons_zero, List.set_cons_succ]
                refine wpAnyH_take (i := 11) (v := ?_) rfl (by kernel_rfl) (by kernel_rfl) (by kernel_rfl) (fun _ _ _ h => h) (Or.inl ⟨by rfl, ?_⟩) (by assumption) ?_
                rotate_left 1
                · (intro wS hSw; (try dsimp only at hSw); go_simp; try with_reducible rfl)
                try simp only [List.getElem_toArray, List.getElem_cons_zero, List.getElem_cons_succ, Act.put, List.setIfInBounds_toArray, List.set_cons_zero, List.set_cons_succ]
                refine wpAnyH_take (i := 12) (v := ?_) rfl (by kernel_rfl) (by kernel_rfl) (by kernel_rfl) (fun _ _ _ h => h) (Or.inl ⟨by rfl, ?_⟩) (by assumption) ?_
                rotate_left 1
                · (intro wS hSw; (try dsimp only at hSw); go_simp; try with_reducible rfl)
                try simp only [List.getElem_toArray, List.getElem_cons_zero, List.getElem_cons_succ, Act.put, List.setIfInBounds_toArray, List.set_cons_zero, List.set_cons_succ]
                refine wpAnyH_done (by kernel_rfl) ?_ _
                refine NoPanic.normal ?_
                go_wp2_with fail
                go_roundw
                case rel => exact ⟨j + 1, by go_num, by omega, HT5, HB2.out.drew⟩
                case measure => simp [intOf]; omega
          · have hE3 : E = ci := by rw [← HT2.out, hci, if_neg hci0]
            have dne : (ci != (0 : Int)) = true := by simpa using hci0
            subst hE3
            clear HT2 hci HE2 HP
            go_wp2_with fail
            go_ret
            exact ⟨rfl, HB1.out.trans (HB2.out.mono HB1.out.size)⟩
        · have hq : decide ((j : Int) < (R.length : Int)) = false := by simp; omega
          obtain rfl : j = R.length := by omega
          have hE0 : E = 0 := by rw [← HT.out, List.drop_length]; rfl
          subst hE0
          go_wp2_with fail
          go_ret
          exact ⟨rfl, HB1.out.trans (hbw.mono HB1.out.size)⟩
    · have d64 : decide ((64 : Int) < (R.length : Int)) = true := decide_eq_true (by omega)
      have hE1 : E = 1 := by rw [← HE.out]; unfold allN; rw [if_pos hc, if_neg h64]
      subst hE1
      clear hc HE
      go_wp2_with fail
      go_ret
      exact ⟨rfl, HB1.out⟩
  · have dne : (c != (0 : Int)) = true := by simpa using hc0
    have hE1 : E = c := by rw [← HE.out]; unfold allN; rw [hc, if_neg hc0]
    subst hE1
    clear HE
    go_wp2_with fail
    go_ret
    exact ⟨rfl, HB1.out⟩
end Go.Proofs.YthdolmofeeniaaaGreatDoor
end
section
/- blocking, the program's: the blocks of records. -/
set_option linter.unusedSimpArgs false
set_option linter.unusedVariables false
set_option maxRecDepth 100000
namespace Go.Proofs.YthdolmofeeniaaaGreatDoor
open Go.RowKit
/-- the blocks of records for block key number i -/
def blkPair (k : Int × Int) (i : Nat) (K : List (Int × Int)) (r : RecL) : (Int × Bool) × Int := (bhashN k i (K.map (compN r.vals)), r.id)
def blocksN (k : Int × Int) (i : Nat) (K : List (Int × Int)) (R : List RecL) : List BkP := addAll [] (R.map (blkPair k i K))
theorem infoIn : (Tryz.prog.info? 3).map (fun i => (i.zero, i.size, i.bytes)) = some (some (.int .i64 0), 1, 8) := by kernel_rfl
theorem pB_set (C : List BkV) (i : Nat) (x : BkV) : (C.set i x).map pB = (C.map pB).set i (pB x) := List.map_set
theorem pB_getD (C : List BkV) (i : Nat) : ((C.map pB).getD i default).1 = (C.getD i default).h := by
  rw [List.getD, List.getD, List.getElem?_map]
  cases C[i]? <;> rfl
theorem put_at (C : List BkV) (t : Nat) (h id : Int) (ht : t < C.length) (hl : ∀ q, q < t → (C.getD q default).h < h) (he : (C.getD t default).h = h) (a : Option Addr) (n c : Nat) : (C.set t ⟨C[t].h, a, n, c, C[t].ids ++ [id]⟩).map pB = addB (C.map pB) h id := by
  rw [addB_at h id (C.map pB) t (by simpa using ht) (fun q hq => by rw [pB_getD]; exact hl q hq) (by rw [pB_getD]; exact he), pB_set, List.getElem_map]
  rfl
theorem put_new (C : List BkV) (t : Nat) (h id : Int) (ht : t ≤ C.length) (hl : ∀ q, q < t → (C.getD q default).h < h) (hg : t < C.length → h < (C.getD t default).h) (a : Option Addr) (n c : Nat) (hlt : t < (C.take t ++ newBk h :: C.drop t).length) :
    ((C.take t ++ newBk h :: C.drop t).set t ⟨(C.take t ++ newBk h :: C.drop t)[t].h, a, n, c, (C.take t ++ newBk h :: C.drop t)[t].ids ++ [id]⟩).map pB = addB (C.map pB) h id := by
  have hm : (C.take t).length = t := by rw [List.length_take]; omega
  have hx : (C.take t ++ newBk h :: C.drop t)[t] = newBk h := by
    rw [List.getElem_append_right (by omega)]
    simp [hm]
  rw [addB_new h id (C.map pB) t (by simpa using ht) (fun q hq => by rw [pB_getD]; exact hl q hq) (fun h' => by rw [pB_getD]; exact hg (by simpa using h')), hx, List.set_append_right _ _ (by omega), hm, Nat.sub_self, List.set_cons_zero, List.map_append, List.map_cons, List.map_take, List.map_drop]
  rfl
def BlocksPost (L : List BkP) (w : World) (e : Ending) (w' : World) : Prop := ∃ v, e = .returned v ∧ BlocksAt w' (fun b => w.heap.size ≤ b) v L ∧ Below w.heap.size w w'
set_option maxHeartbeats 8000000 in
theorem blocks_yes (T : Nat → Prop) (k : Int × Int) (kv : Value) (K : List (Int × Int)) (i : Nat) (rv : Value) (R : List RecL) (w : World) (hk : Vec w T 2 encC kv K) (hr : RecsVec w Any1 rv R) (hn : ∀ r ∈ R, r.vals.length ≤ 1000000) (ok : ∀ r ∈ R, CompsOk K r.vals) (hR : R.length ≤ 1000) (hi : i < 100) :
    Calls Tryz.prog 69 #[.agg #[.int .u64 k.1, .int .u64 k.2], .agg #[kv], .int .i64 i, rv] w (BlocksPost (blocksN k i K R) w) := by
  obtain ⟨ak, ck, rfl⟩ := hk.slice
  obtain ⟨ar, cr, rfl⟩ := hr.slice
  obtain ⟨G, hG⟩ : ∃ G, blocksN k i K R = G := ⟨_, rfl⟩
  rw [hG]
  have HG := Lib.hid hG
  have HK := Lib.hid hk; have HR := Lib.hid hr; have HN := Lib.hid hn; have HOk := Lib.hid ok
  clear hk hr hn ok hG
  go_enter Tryz.func69, Tryz.ntmps69
  go_wp2_with fail
  refine wp_world (fun W hW => ?_)
  have hb0 : Below w.heap.size w W := by rw [hW]; exact ((Below.refl w.heap.size w).alloc (Nat.le_refl _) _).alloc (by simp) _
  have hk0 : W.heap[w.heap.size]? = some (.cells #[.int .u64 k.1, .int .u64 k.2] 39 (0, 0)) := by rw [hW]; exact blk_old (blk_new rfl)
  have hc0 : W.heap[w.heap.size + 1]? = some (.cells #[.slice ak K.length ck] 46 (0, 0)) := by rw [hW]; exact blk_new (by simp)
  clear hW
  have HB0 := Lib.hid hb0; have HK0 := Lib.hid hk0; have HC0 := Lib.hid hc0
  have lk := lt_of_blk hk0; have lc := lt_of_blk hc0
  clear hb0 hk0 hc0
  go_loopw [9, 18] (fun v t wr => ∃ (j : Nat) (C : List BkV), t = .int .i64 j ∧ j ≤ R.length ∧ C.length ≤ j ∧ BRow W v C wr ∧ AscBk (C.map pB) ∧ Hid (∀ x ∈ C, x.ids.length ≤ j) ∧ Hid (addAll (C.map pB) ((R.drop j).map (blkPair k i K)) = G)) (fun _ t _ => R.length - (intOf t).toNat)
  case atStart => exact ⟨0, [], rfl, by omega, by simp, BRow.nil (Below.refl _ _), List.Pairwise.nil, Lib.hid (fun x hx => by simp at hx), HG⟩
  case round =>
    obtain ⟨j, C, rfl, hj, hCl, hrow, hasc, HLen, HT⟩ := hrel
    have HRow := Lib.hid hrow; have HAsc := Lib.hid hasc
    clear hrow hasc
    have hbw := HRow.out.own.2
    by_cases hlt : j < R.length
    · have hq : decide ((j : Int) < (R.length : Int)) = true := by simp; omega
      have hji : (j : Int) < (R.length : Int) := by omega
      have hbW := HB0.out.trans (hbw.mono HB0.out.size)
      obtain ⟨b, off, id, ver, aa, nn, cc, vals, rfl, lb, c0, c1, c2, hRj, hvv⟩ := (HR.out.below hbW).at j hlt
      obtain ⟨k0, k1⟩ := cells2K (blk_below hbw lk HK0.out)
      have kc := (hbw.cell (p := ⟨w.heap.size + 1, 0, none⟩) lc).trans (by rw [cell_of_row _ _ _ _ _ _ HC0.out]; rfl : W.cell? ⟨w.heap.size + 1, 0, none⟩ = some (.slice ak K.length ck))
      have lkr : w.heap.size < wr.heap.size := by have := hbw.size; omega
      have lcr : w.heap.size + 1 < wr.heap.size := by have := hbw.size; omega
      have hmem : R[j] ∈ R := List.getElem_mem hlt
      have hok := HOk.out _ hmem; have hvn := HN.out _ hmem
      rw [hRj] at hok hvn
      dsimp only at hok hvn
      have hT := HT.out
      rw [List.drop_eq_getElem_cons hlt, List.map_cons, hRj] at hT
      obtain ⟨⟨h, ok⟩, hh⟩ : ∃ p, bhashN k i (K.map (compN vals)) = p := ⟨_, rfl⟩
      have hT2 : addAll (if ok = true then addB (C.map pB) h id else C.map pB) ((R.drop (j + 1)).map (blkPair k i K)) = G := by
        rw [← hT]
        simp only [addAll, blkPair, hh]
      have HT2 := Lib.hid hT2; have HH := Lib.hid hh; have HV := Lib.hid hvv; have HOk1 := Lib.hid hok
      clear hT hT2 hh hvv hok hmem hRj HT hbW
      have hvl := HV.out.len.1
      subst hvl
      have HBw := Lib.hid hbw
      clear hbw
      go_wp2_with fail
      refine wp_calls_world (fun Wc hWc => ?_)
      have hbc : Below wr.heap.size wr Wc := by rw [hWc]; exact (Below.refl wr.heap.size wr).alloc (Nat.le_refl _) _
      have hy : Wc.heap[wr.heap.size]? = some (.cells #[.int .i64 id, .int .i64 ver, .slice aa vals.length cc] 42 (0, 0)) := by rw [hWc]; exact blk_new rfl
      clear hWc
      refine (bhash_yes T k _ K i id ver _ vals Wc ((HK.out.below HB0.out).below HBw.out |>.below hbc) (HV.out.below hbc) hvn HOk1.out hi).mono ?_
      rw [HH.out]
      rintro e w2 ⟨rfl, hb⟩
      have hbr := hbc.trans (hb.mono hbc.size)
      have hy2 := blk_below hb (lt_of_blk hy) hy
      have HRow2 := Lib.hid (HRow.out.below hbr)
      have HY2 := Lib.hid hy2
      clear hb hbc hy hy2 k0 k1 kc c0 c1 c2
      cases ok
      · have HT3 := Lib.hid (show addAll (C.map pB) ((R.drop (j + 1)).map (blkPair k i K)) = G by have := HT2.out; simpa using this)
        clear HT2
        go_wp2_with fail
        go_roundw
        case rel => exact ⟨j + 1, C, by go_num, by omega, by omega, HRow2.out, HAsc.out, Lib.hid (fun x hx => Nat.le_succ_of_le (HLen.out x hx)), HT3⟩
        case measure => simp [intOf]; omega
      · have HT3 := Lib.hid (show addAll (addB (C.map pB) h id) ((R.drop (j + 1)).map (blkPair k i K)) = G by have := HT2.out; simpa using this)
        clear HT2
        go_wp2_with fail
        refine (bs_any (fun b => W.heap.size ≤ b) _ C h w2 (OwnV.vec (size := 2) (enc := encBk) (fun _ => rfl) HRow2.out.own) (fun p q hpq hq' => by have := HAsc.out.le p q hpq (by simpa using hq'); rwa [pB_getD, pB_getD] at this) (by omega)).mono ?_
        rintro e w3 ⟨at_, ha1, ha2, ha3, rfl, hb3⟩
        have hy3 := blk_below hb3 (lt_of_blk HY2.out) HY2.out
        have HRow3 := Lib.hid (HRow2.out.below hb3)
        have HY3 := Lib.hid hy3
        have HA2 := Lib.hid ha2; have HA3 := Lib.hid ha3
        have hsz3 : wr.heap.size < w3.heap.size := lt_of_blk hy3
        obtain ⟨f, hf⟩ : ∃ f, decide (at_ < C.length ∧ (C.getD at_ default).h = h) = f := ⟨_, rfl⟩
        rw [hf]
        clear hy3 ha2 ha3 hb3 HRow2 HY2
        go_upto_if 39 with (fail)
        go_cut [9] (fun s9 wx => ∃ C' : List BkV, ∃ ht : at_ < C'.length, BRow W s9 C' wx ∧ wx.heap[wr.heap.size]? = some (.cells #[.int .i64 id, .int .i64 ver, .slice aa vals.length cc] 42 (0, 0)) ∧ C'.length ≤ C.length + 1 ∧ Hid (∀ x ∈ C', x.ids.length ≤ j) ∧ Hid (∀ a n c, (C'.set at_ ⟨C'[at_].h, a, n, c, C'[at_].ids ++ [id]⟩).map pB = addB (C.map pB) h id))
        case first =>
          cases f
          · have hnf := of_decide_eq_false hf
            clear hf
            go_wp2_with fail
            refine wp_calls_world (fun W4 hW4 => ?_)
            have hb4 : Below w3.heap.size w3 W4 := by rw [hW4]; exact (Below.refl w3.heap.size w3).alloc (Nat.le_refl _) _
            have hx4 : W4.heap[w3.heap.size]? = some (.cells #[.int .u64 h, .slice none 0 0] 73 (0, 0)) := by rw [hW4]; exact blk_new rfl
            clear hW4
            have HRow4 := HRow3.out.below hb4
            have hy4 := blk_below hb4 (lt_of_blk HY3.out) HY3.out
            have hnb : ∀ g, (u9).ownBlock = some g → g < wr.heap.size := fun g hg => (HRow.out.own.1.lt g hg).2
            refine (insert_bk W _ C at_ h w3.heap.size W4 HRow4.own hx4 (fun e => by have := hnb _ e; omega) (by omega) ha1).mono ?_
            rintro e w5 ⟨v5, rfl, ho5, hk5, hz5, hv5⟩
            have hrow5 := HRow4.put at_ ha1 h ho5 hk5 hv5
            have hy5 := hk5 wr.heap.size _ (fun e => by have := hnb _ e.symm; omega) hy4
            have hl5 : at_ < (C.take at_ ++ newBk h :: C.drop at_).length := by simp; omega
            have HRow5 := Lib.hid hrow5; have HY5 := Lib.hid hy5
            clear hrow5 hy5 hb4 hx4 HRow4 hy4 ho5 hk5 hv5
            go_wp2_with fail
            go_meet
            exact ⟨_, hl5, HRow5.out, HY5.out, by simp; omega, Lib.hid (fun x hx => by rcases List.mem_append.1 hx with h1 | h1; · exact HLen.out x (List.mem_of_mem_take h1)
                                                                                       · rcases List.mem_cons.1 h1 with h2 | h2; · rw [h2]; simp [newBk]
                                                                                         · exact HLen.out x (List.mem_of_mem_drop h2)), Lib.hid (fun a n c => put_new C at_ h id ha1 HA2.out (fun h' => by have h1 := HA3.out at_ (Nat.le_refl _) h'; have h2 : (C.getD at_ default).h ≠ h := fun e => hnf ⟨h', e⟩; omega) a n c hl5)⟩
          · have hyf := of_decide_eq_true hf
            clear hf
            go_wp2_with fail
            go_meet
            exact ⟨C, hyf.1, HRow3.out, HY3.out, by omega, HLen, Lib.hid (fun a n c => put_at C at_ h id hyf.1 HA2.out hyf.2 a n c)⟩
        case rest =>
          obtain ⟨C', ht, hrow', hy', hl', HLen', HPut⟩ := hcut
          have HRow' := Lib.hid hrow'
          rcases hrow'.own.1.2 with ⟨_, h0⟩ | ⟨g, cap, cur, rfl, hg, hgc, hn1, hn2, hn3, hn4⟩
          · have : C'.length = 0 := h0
            omega
          obtain ⟨x, hx⟩ : ∃ x, C'[at_] = x := ⟨_, rfl⟩
          have hids := hrow'.ids _ (List.getElem_mem ht)
          have hc1 : wc.cell? ⟨g, at_ * 2 + 1, none⟩ = some (idV C'[at_]) := by
            obtain ⟨b0, o0, e0, _, hc⟩ := (OwnV.vec (size := 2) (enc := encBk) (fun _ => rfl) hrow'.own).get at_ ht
            cases e0
            have := hc 1 _ rfl
            rwa [Nat.zero_add] at this
          rw [hx] at hids hc1
          obtain ⟨xh, xa, xn, xc, xi⟩ := x
          dsimp only [idV] at hids hc1
          have hfr := (frozen_of_row _ _ _ _ _ hgc : wc.frozen? ⟨g, at_ * 2 + 1, none⟩ = false)
          obtain ⟨r0, r1, r2⟩ := cells3 hy'
          have lgc := lt_of_blk hgc; have lyc := lt_of_blk hy'
          have HPut2 := HPut.out
          rw [hx] at HPut2
          have HP2 := Lib.hid HPut2
          have HIds := Lib.hid hids; have HX := Lib.hid hx
          have htn : (at_ : Int) < (C'.length : Int) := by omega
          obtain ⟨i0, hi0, hz0, hz1, hz2⟩ := info_parts infoIn
          have HI := Lib.hid hi0; have HZ0 := Lib.hid hz0; have HZ1 := Lib.hid hz1; have HZ2 := Lib.hid hz2
          have hoff := hrow'.off _ (List.getElem_mem ht)
          rw [hx] at hoff
          have hWc := hrow'.own.2
          have HWc := Lib.hid hWc
          have hWz := hWc.size
          have HOff := Lib.hid (show some g ≠ (Value.slice xa xn xc).ownBlock from by
            rcases hoff with h1 | h1
            · rw [show (Value.slice xa xn xc).ownBlock = none from h1]; simp
            · exact fun e => h1 (by rw [show (idV ⟨xh, xa, xn, xc, xi⟩).ownBlock = some g from e.symm]; rfl))
          have hxil : xi.length ≤ j := by have := HLen'.out _ (List.getElem_mem ht); rw [HX.out] at this; exact this
          clear hgc hn1 hn2 hn3 hn4 hy' hrow' HPut HPut2 hids hx hi0 hz0 hz1 hz2 hoff hWc r1 r2
          have bA := ((Below.refl wc.heap.size wc).drew).alloc (Nat.le_refl _) (.cells #[.int .i64 id] 3)
          have hown := own_below HIds.out bA
          have hnews : ∀ j u, [Value.int .i64 id][j]? = some u → ((wc.drew).alloc (.cells #[.int .i64 id] 3)).cell? ((⟨wc.heap.size, 0, none⟩ : Addr).add j) = some u := fun j u hu => by
            have hX : ((wc.drew).alloc (.cells #[.int .i64 id] 3)).heap[wc.heap.size]? = some (.cells #[.int .i64 id] 3 (0, 0)) := blk_new rfl
            rw [add_plain, cell_of_row _ _ _ _ _ _ hX, Nat.zero_add]; simpa using hu
          have hone : ∀ u ∈ [Value.int .i64 id], u.oneCell' = true := by intro u hu; simp at hu; subst hu; rfl
          go_wp2_with fail
          refine wp_region_noPanic ?_
          refine wp_region_k (by kernel_rfl) (fun w' => w'.cell? ⟨g, at_ * 2 + 1, none⟩ = some (.slice xa xn xc) ∧ w'.cell? ⟨wr.heap.size, 0, none⟩ = some (.int .i64 id)) 10 (⟨hc1, r0⟩) (fun hHeld => ?_)
          refine wpAnyK_take0 (i := 0) (v := ?_) rfl (by kernel_rfl) (by kernel_rfl) (by kernel_rfl) (by decide) (fun _ _ _ h => h) (Or.inl ⟨by rfl, ?_⟩) (by first | exact fun _ => by assumption | exact fun h => absurd h (by decide)) ?_
          rotate_left 1
          · (intro wS hSw; (try dsimp only at hSw); go_simp; try with_reducible rfl)
          try simp only [List.getElem_toArray, List.getElem_cons_zero, List.getElem_cons_succ, Act.put, List.setIfInBounds_toArray, List.set_cons_zero, List.set_cons_succ]
          refine wpAnyK_take0 (i := 1) (v := ?_) rfl (by kernel_rfl) (by kernel_rfl) (by kernel_rfl) (by decide) (fun _ _ _ h => h) (Or.inl ⟨by rfl, ?_⟩) (by first | exact fun _ => by assumption | exact fun h => absurd h (by decide)) ?_
          rotate_left 1
          · (intro wS hSw; (try dsimp only at hSw); go_simp; try with_reducible rfl)
          try simp only [List.getElem_toArray, List.getElem_cons_zero, List.getElem_cons_succ, Act.put, List.setIfInBounds_toArray, List.set_cons_zero, List.set_cons_succ]
          refine wpAnyK_take (i := 2) (v := ?_) rfl (by kernel_rfl) (by kernel_rfl) (by kernel_rfl) (by kernel_rfl) (fun _ _ _ h => h) (Or.inl ⟨by rfl, ?_⟩) (by assumption) ?_
          rotate_left 1
          · (intro wS hSw; (try dsimp only at hSw); go_simp; try with_reducible rfl)
          try simp only [List.getElem_toArray, List.getElem_cons_zero, List.getElem_cons_succ, Act.put, List.setIfInBounds_toArray, List.set_cons_zero, List.set_cons_succ]
          refine wpAnyK_take (i := 3) (v := ?_) rfl (by kernel_rfl) (by kernel_rfl) (by kernel_rfl) (by kernel_rfl) (fun _ _ _ h => h) (Or.inl ⟨by rfl, ?_⟩) (by assumption) ?_
          rotate_left 1
          · (intro wS hSw; (try dsimp only at hSw); go_simp; try with_reducible rfl)
          try simp only [List.getElem_toArray, List.getElem_cons_zero, List.getElem_cons_succ, Act.put, List.setIfInBounds_toArray, List.set_cons_zero, List.set_cons_succ]
          refine wpAnyK_take (i := 4) (v := ?_) rfl (by kernel_rfl) (by kernel_rfl) (by kernel_rfl) (by kernel_rfl) (fun _ _ _ h => h) (Or.inl ⟨by rfl, ?_⟩) (by assumption) ?_
          rotate_left 1
          · (intro wS hSw; (try dsimp only at hSw); go_simp; try with_reducible rfl)
          try simp only [List.getElem_toArray, List.getElem_cons_zero, List.getElem_cons_succ, Act.put, List.setIfInBounds_toArray, List.set_cons_zero, List.set_cons_succ]
          refine wpAnyK_take (i := 5) (v := ?_) rfl (by kernel_rfl) (by kernel_rfl) (by kernel_rfl) (by kernel_rfl) (fun _ _ _ h => h) (Or.inl ⟨by rfl, ?_⟩) (by assumption) ?_
          rotate_left 1
          · (intro wS hSw; (try dsimp only at hSw); go_simp; try with_reducible rfl)
          try simp only [List.getElem_toArray, List.getElem_cons_zero, List.getElem_cons_succ, Act.put, List.setIfInBounds_toArray, List.set_cons_zero, List.set_cons_succ]
          refine wpAnyK_take (i := 6) (v := ?_) rfl (by kernel_rfl) (by kernel_rfl) (by kernel_rfl) (by kernel_rfl) (fun _ _ _ h => h) (Or.inl ⟨by rfl, ?_⟩) (by assumption) ?_
          rotate_left 1
          · (intro wS hSw; (try dsimp only at hSw); go_simp; try with_reducible rfl)
          try simp only [List.getElem_toArray, List.getElem_cons_zero, List.getElem_cons_succ, Act.put, List.setIfInBounds_toArray, List.set_cons_zero, List.set_cons_succ]
          refine wpAnyK_take (i := 7) (v := ?_) rfl (by kernel_rfl) (by kernel_rfl) (by kernel_rfl) (by kernel_rfl) (fun _ _ _ h => h) (Or.inl ⟨by rfl, ?_⟩) (by assumption) ?_
          rotate_left 1
          · (intro wS hSw; (try dsimp only at hSw); go_simp; try with_reducible rfl)
          try simp only [List.getElem_toArray, List.getElem_cons_zero, List.getElem_cons_succ, Act.put, List.setIfInBounds_toArray, List.set_cons_zero, List.set_cons_succ]
          refine wpAnyK_take (i := 8) (v := ?_) rfl (by kernel_rfl) (by kernel_rfl) (by kernel_rfl) (by kernel_rfl) (fun _ _ _ h => h) (Or.inl ⟨by rfl, ?_⟩) (by assumption) ?_
          rotate_left 1
          · (intro wS hSw; (try dsimp only at hSw); go_simp; try with_reducible rfl)
          try simp only [List.getElem_toArray, List.getElem_cons_zero, List.getElem_cons_succ, Act.put, List.setIfInBounds_toArray, List.set_cons_zero, List.set_cons_succ]
          refine wpAnyK_ready (rs := [9]) (by kernel_rfl) (by simp) ?_
          refine AllReadyK.cons rfl (fun K hK => ?_) AllReadyK.nil
          go_simp
          skip
          refine shutK hK (⟨(bA.cell (p := ⟨g, at_ * 2 + 1, none⟩) lgc).trans hc1, (bA.cell (p := ⟨wr.heap.size, 0, none⟩) lyc).trans r0⟩) (fun hHeld => ?_)
          clear hK K
          try simp only [List.getElem_toArray, List.getElem_cons_zero, List.getElem_cons_succ, Act.put, List.setIfInBounds_toArray, List.set_cons_zero, List.set_cons_succ]
          refine wpAnyK_ready (rs := [10]) (by kernel_rfl) (by simp) ?_
          refine AllReadyK.cons rfl (fun K hK => ?_) AllReadyK.nil
          refine wp_append_lies _ (.tmp 52) (.tmp 55) 22 (by rfl) W.heap.size 3 i0 (.int .i64 0) 1 8 Tryz.underlying22 HI.out HZ0.out HZ1.out HZ2.out rfl (by decide) (.slice xa xn xc) xi.length (xi.map (Value.int .i64)) (by rfl) hown ⟨wc.heap.size, 0, none⟩ 1 1 [.int .i64 id] (by rfl) rfl hnews hone (by omega) (by unfold maxLen; omega) (by omega) (by simp; omega) (wc.heap.size + 1) (by simp) ?_; intro g5 cap5 w5 hown5 hg5 hat5 hlt5; have cY5 : w5.cell? ⟨g, at_ * 2 + 1, none⟩ = some (.slice xa xn xc) := (hg5.cell_far ⟨g, at_ * 2 + 1, none⟩ (by simp; omega) HOff.out).trans ((bA.cell (p := ⟨g, at_ * 2 + 1, none⟩) lgc).trans hc1); have fY5 : w5.frozen? ⟨g, at_ * 2 + 1, none⟩ = false := (hg5.frozen_far ⟨g, at_ * 2 + 1, none⟩ (by simp; omega) HOff.out).trans ((bA.frozen (p := ⟨g, at_ * 2 + 1, none⟩) lgc).trans hfr)
          refine shutK_off hK (by decide) ?_
          clear hK K
          try simp only [List.getElem_toArray, List.getElem_cons_zero, List.getElem_cons_succ, Act.put, List.setIfInBounds_toArray, List.set_cons_zero, List.set_cons_succ]
          have hrA := (HRow'.out.below bA).add at_ ht g rfl (.slice (some ⟨g5, 0, none⟩) (xi.length + 1) cap5) id _ _ _ rfl (w1 := w5) (by rw [HX.out, List.map_append]; exact hown5) (by rw [HX.out]; exact fun k o hk hko => (hg5.block k (lt_of_blk hko) hk).trans hko)
            ((HWc.out.trans (bA.mono hWz)).grown hg5 (Nat.le_trans hWz bA.size) (fun q hq => ((own_below' HIds.out bA).lt q hq).1)) (by
              rw [HX.out]
              rcases hat5 with h1 | h1
              · exact .inl h1
              · exact .inr (by rw [h1]; simp [Value.ownBlock]))
          have hpm := HP2.out (some ⟨g5, 0, none⟩) (xi.length + 1) cap5
          rw [HX.out] at hrA
          have HRA := Lib.hid hrA; have HPM := Lib.hid hpm
          clear hrA hpm hown5 hg5 hat5 hown hnews hone bA
          refine wpAnyK_ready (rs := [11]) (by kernel_rfl) (by simp) ?_
          refine AllReadyK.cons rfl (fun K hK => ?_) AllReadyK.nil
          go_simp
          skip
          refine shutK_off hK (by decide) ?_
          clear hK K
          try simp only [List.getElem_toArray, List.getElem_cons_zero, List.getElem_cons_succ, Act.put, List.setIfInBounds_toArray, List.set_cons_zero, List.set_cons_succ]
          refine wpAnyK_ready (rs := [12]) (by kernel_rfl) (by simp) ?_
          refine AllReadyK.cons rfl (fun K hK => ?_) AllReadyK.nil
          go_simp
          skip
          refine shutK_off hK (by decide) ?_
          clear hK K
          try simp only [List.getElem_toArray, List.getElem_cons_zero, List.getElem_cons_succ, Act.put, List.setIfInBounds_toArray, List.set_cons_zero, List.set_cons_succ]
          refine wpAnyK_ready (rs := [13]) (by kernel_rfl) (by simp) ?_
          refine AllReadyK.cons rfl (fun K hK => ?_) AllReadyK.nil
          go_simp
          skip
          refine shutK_off hK (by decide) ?_
          clear hK K
          try simp only [List.getElem_toArray, List.getElem_cons_zero, List.getElem_cons_succ, Act.put, List.setIfInBounds_toArray, List.set_cons_zero, List.set_cons_succ]
          refine wpAnyK_done (by kernel_rfl) ?_ _
          refine NoPanic.normal ?_
          go_wp2_with fail
          go_roundw
          case rel =>
            refine ⟨j + 1, C'.set at_ ⟨xh, some ⟨g5, 0, none⟩, xi.length + 1, cap5, xi ++ [id]⟩, by go_num, by omega, by rw [List.length_set]; omega, HRA.out, ?_, ?_, ?_⟩
            · rw [HPM.out]; exact HAsc.out.add _ _
            · refine Lib.hid fun x hx => ?_
              rcases List.mem_or_eq_of_mem_set hx with h1 | h1
              · exact Nat.le_succ_of_le (HLen'.out x h1)
              · rw [h1]; simp; omega
            · exact Lib.hid (by rw [HPM.out]; exact HT3.out)
          case measure => simp [intOf]; omega
    · have hq : decide ((j : Int) < (R.length : Int)) = false := by simp; omega
      obtain rfl : j = R.length := by omega
      have hT := HT.out
      rw [List.drop_length] at hT
      have hT2 : C.map pB = G := hT
      have HT2 := Lib.hid hT2
      clear hT hT2
      go_wp2_with fail
      go_ret
      exact ⟨_, rfl, by rw [← HT2.out]; exact HRow.out.at.move (Nat.le_refl _) (fun x _ hx => ⟨rfl, Nat.le_trans HB0.out.size hx⟩), HB0.out.trans (hbw.mono HB0.out.size)⟩
end Go.Proofs.YthdolmofeeniaaaGreatDoor
end
section
/- blocking, the program's: Blocks and All of valid block keys and records. -/
set_option linter.unusedSimpArgs false
set_option linter.unusedVariables false
set_option maxRecDepth 100000
namespace Go.Proofs.YthdolmofeeniaaaGreatDoor
open Go.RowKit
theorem allA_ok {s : SchemaL} : ∀ (R : List RecL) (p : Option Int), allA s p R = 0 → ∀ r ∈ R, checkI s r = 0
  | [], _, _, r, hr => by simp at hr
  | x :: R, p, h, r, hr => by
    unfold allA at h
    split at h
    · next h1 =>
      split at h
      · cases h
      · rcases List.mem_cons.1 hr with rfl | h2
        · exact h1
        · exact allA_ok R _ h r h2
    · next h1 => exact absurd h h1
theorem allN_ok {s : SchemaL} {R : List RecL} (h : allN s R = 0) : checkS s = 0 ∧ R.length ≤ 64 ∧ ∀ r ∈ R, checkN s r = 0 := by
  unfold allN at h
  split at h
  · next h0 =>
    split at h
    · next h1 => exact ⟨h0, h1, fun r hr => by unfold checkN; rw [if_pos h0]; exact allA_ok R none h r hr⟩
    · cases h
  · next h0 => exact absurd h h0
/-- records for blocks: valid, their values short -/
structure RecsOk (s : SchemaL) (R : List RecL) : Prop where
  all : allN s R = 0
  short : ∀ r ∈ R, ∀ x ∈ r.vals, x.length ≤ 64
theorem RecsOk.comps {s : SchemaL} {R : List RecL} (h : RecsOk s R) {K : List (Int × Int)} (hk : KeyOk s.fields K) : ∀ r ∈ R, CompsOk K r.vals :=
  fun r hr => comps_ok hk ((allN_ok h.all).2.2 r hr) (h.short r hr)
theorem RecsOk.vals {s : SchemaL} {R : List RecL} (h : RecsOk s R) (hn : s.fields.length ≤ 1000) : ∀ r ∈ R, r.vals.length ≤ 1000000 := by
  intro r hr
  have := (checkN_ok ((allN_ok h.all).2.2 r hr)).2.2.1
  omega
def Blocks2Post (L : List BkP) (w : World) (e : Ending) (w' : World) : Prop := ∃ v, e = .returned (.tuple #[v, .int .i64 0]) ∧ BlocksAt w' (fun b => w.heap.size ≤ b) v L ∧ Below w.heap.size w w'
set_option maxHeartbeats 4000000 in
theorem bBlocks_yes (S T : Nat → Prop) (vf vt vn vs kv rv : Value) (s : SchemaL) (k : Int × Int) (Ks : List (List (Int × Int))) (i : Nat) (R : List RecL) (w : World) (h : SchemaAt w S vf vt vn vs s) (hk : KeysVec w T kv Ks) (hr : RecsVec w Any1 rv R) (hR : RecsOk s R) (hn : s.fields.length ≤ 1000) (ok : KeysOk s.fields Ks) (hi : i < Ks.length) :
    Calls Tryz.prog 30 #[.agg #[vf, vt, vn, vs], .agg #[.int .u64 k.1, .int .u64 k.2], kv, .int .i64 i, rv] w (Blocks2Post (blocksN k i (Ks.getD i []) R) w) := by
  obtain ⟨ak, ck, rfl⟩ := hk.slice
  obtain ⟨ar, cr, rfl⟩ := hr.slice
  have hc := (allN_ok hR.all).1
  have h64 := (allN_ok hR.all).2.1
  have hkey := ok.key (Ks.getD i []) (by rw [getD_at _ _ hi]; exact List.getElem_mem hi)
  have h8 := ok.len
  obtain ⟨G, hG⟩ : ∃ G, blocksN k i (Ks.getD i []) R = G := ⟨_, rfl⟩
  rw [hG]
  have HS := Lib.hid h; have HK := Lib.hid hk; have HV := Lib.hid hr; have HRO := Lib.hid hR; have HOk := Lib.hid ok; have HC := Lib.hid hc; have HKey := Lib.hid hkey; have HG := Lib.hid hG
  have hck := Lib.hid (show (if i < Ks.length then (0 : Int) else 2) = 0 from if_pos hi)
  have dz : ((0 : Int) != 0) = false := rfl
  have hii : (i : Int) < (Ks.length : Int) := by omega
  clear h hk hr hR ok hc hkey hG
  go_enter Tryz.func30, Tryz.ntmps30
  go_wp2_with fail
  refine wp_calls_world (fun W hW => ?_)
  have hb0 : Below w.heap.size w W := by rw [hW]; exact ((Below.refl w.heap.size w).alloc (Nat.le_refl _) _).alloc (by simp) _
  have hs0 : W.heap[w.heap.size]? = some (.cells #[vf, vt, vn, vs] 33 (0, 0)) := by rw [hW]; exact blk_old (blk_new rfl)
  have hk0 : W.heap[w.heap.size + 1]? = some (.cells #[.int .u64 k.1, .int .u64 k.2] 39 (0, 0)) := by rw [hW]; exact blk_new (by simp)
  clear hW
  refine (bcheck2_any S T _ _ _ _ _ s Ks i W (HS.out.below hb0) (HK.out.below hb0) HC.out (by omega) HOk.out (by omega)).mono ?_
  rw [hck.out]
  rintro e w1 ⟨rfl, hb⟩
  have hs1 := blk_below hb (lt_of_blk hs0) hs0; have hk1 := blk_below hb (lt_of_blk hk0) hk0
  have HB1 := Lib.hid (hb0.trans (hb.mono hb0.size)); have HK1 := Lib.hid hk1
  obtain ⟨s0, s1, s2, s3⟩ := cellsS hs1
  have ls := lt_of_blk hs1
  clear hb hb0 hs0 hk0 hs1 hk1
  go_wp2_with fail
  refine (rall_any S Any1 _ _ _ _ _ s R w1 (HS.out.below HB1.out) (HV.out.below HB1.out) (fun r hr x hx => by have := HRO.out.short r hr x hx; omega) (HRO.out.vals hn) (by omega)).mono ?_
  rw [HRO.out.all]
  rintro e w2 ⟨rfl, hb⟩
  have hk2 := blk_below hb (lt_of_blk HK1.out) HK1.out
  have HB2 := Lib.hid (HB1.out.trans (hb.mono HB1.out.size))
  clear hb s0 s1 s2 s3
  obtain ⟨k0, k1⟩ := cells2K hk2
  have lk := lt_of_blk hk2
  obtain ⟨b, off, c, rfl, lb, c0, hvc⟩ := (HK.out.below HB2.out).at i hi
  obtain ⟨ca, cn, cc⟩ := c
  dsimp only at c0 hvc
  have HVC := Lib.hid hvc
  clear hk2 hvc ls
  go_wp2_with fail
  have bD : Below w2.heap.size w2 w2.drew := (Below.refl _ _).drew
  refine wp_region_noPanic ?_
  refine wp_region_held_drew (S := (fun w' => w'.cell? ⟨w.heap.size + 1, 0, none⟩ = some (.int .u64 k.1) ∧ w'.cell? ⟨w.heap.size + 1, 1, none⟩ = some (.int .u64 k.2) ∧ w'.cell? ⟨b, off + i, none⟩ = some (.slice ca cn cc))) (by kernel_rfl) (⟨k0, k1, c0⟩) (fun hHeld => ?_)
  refine wpAnyH_take (i := 0) (v := ?_) rfl (by kernel_rfl) (by kernel_rfl) (by kernel_rfl) (fun _ _ _ h => h) (Or.inl ⟨by rfl, ?_⟩) (by assumption) ?_
  rotate_left 1
  · (intro wS hSw; (try dsimp only at hSw); go_simp; try with_reducible rfl)
  try simp only [List.getElem_toArray, List.getElem_cons_zero, List.getElem_cons_succ, Act.put, List.setIfInBounds_toArray, List.set_cons_zero, List.set_cons_succ]
  refine wpAnyH_take (i := 1) (v := ?_) rfl (by kernel_rfl) (by kernel_rfl) (by kernel_rfl) (fun _ _ _ h => h) (Or.inl ⟨by rfl, ?_⟩) (by assumption) ?_
  rotate_left 1
  · (intro wS hSw; (try dsimp only at hSw); go_simp; try with_reducible rfl)
  try simp only [List.getElem_toArray, List.getElem_cons_zero, List.getElem_cons_succ, Act.put, List.setIfInBounds_toArray, List.set_cons_zero, List.set_cons_succ]
  refine wpAnyH_take (i := 2) (v := ?_) rfl (by kernel_rfl) (by kernel_rfl) (by kernel_rfl) (fun _ _ _ h => h) (Or.inl ⟨by rfl, ?_⟩) (by assumption) ?_
  rotate_left 1
  · (intro wS hSw; (try dsimp only at hSw); go_simp; try with_reducible rfl)
  try simp only [List.getElem_toArray, List.getElem_cons_zero, List.getElem_cons_succ, Act.put, List.setIfInBounds_toArray, List.set_cons_zero, List.set_cons_succ]
  refine wpAnyH_take (i := 3) (v := ?_) rfl (by kernel_rfl) (by kernel_rfl) (by kernel_rfl) (fun _ _ _ h => h) (Or.inl ⟨by rfl, ?_⟩) (by assumption) ?_
  rotate_left 1
  · (intro wS hSw; (try dsimp only at hSw); go_simp; try with_reducible rfl)
  try simp only [List.getElem_toArray, List.getElem_cons_zero, List.getElem_cons_succ, Act.put, List.setIfInBounds_toArray, List.set_cons_zero, List.set_cons_succ]
  refine wpAnyH_take (i := 4) (v := ?_) rfl (by kernel_rfl) (by kernel_rfl) (by kernel_rfl) (fun _ _ _ h => h) (Or.inl ⟨by rfl, ?_⟩) (by assumption) ?_
  rotate_left 1
  · (intro wS hSw; (try dsimp only at hSw); go_simp; try with_reducible rfl)
  try simp only [List.getElem_toArray, List.getElem_cons_zero, List.getElem_cons_succ, Act.put, List.setIfInBounds_toArray, List.set_cons_zero, List.set_cons_succ]
  refine wpAnyH_take (i := 5) (v := ?_) rfl (by kernel_rfl) (by kernel_rfl) (by kernel_rfl) (fun _ _ _ h => h) (Or.inl ⟨by rfl, ?_⟩) (by assumption) ?_
  rotate_left 1
  · (intro wS hSw; (try dsimp only at hSw); go_simp; try with_reducible rfl)
  try simp only [List.getElem_toArray, List.getElem_cons_zero, List.getElem_cons_succ, Act.put, List.setIfInBounds_toArray, List.set_cons_zero, List.set_cons_succ]
  refine wpAnyH_take (i := 6) (v := ?_) rfl (by kernel_rfl) (by kernel_rfl) (by kernel_rfl) (fun _ _ _ h => h) (Or.inl ⟨by rfl, ?_⟩) (by assumption) ?_
  rotate_left 1
  · (intro wS hSw; (try dsimp only at hSw); go_simp; try with_reducible rfl)
  try simp only [List.getElem_toArray, List.getElem_cons_zero, List.getElem_cons_succ, Act.put, List.setIfInBounds_toArray, List.set_cons_zero, List.set_cons_succ]
  refine wpAnyH_ready (rs := [7]) (by kernel_rfl) (by simp) ?_
  refine AllReadyH.cons rfl (fun K hK => ?_) AllReadyH.nil
  go_simp
  refine (blocks_yes T k _ (Ks.getD i []) i _ R _ (HVC.out.below bD) ((HV.out.below HB2.out).below bD) (HRO.out.vals hn) (HRO.out.comps HKey.out) (by omega) (by omega)).mono ?_; rw [HG.out]; rintro e w3 ⟨v3, rfl, hv3, hb⟩; have b3 := bD.trans hb; have HV3 := Lib.hid hv3; clear hb hv3
  refine hK.out _ _ (⟨(b3.cell (p := ⟨w.heap.size + 1, 0, none⟩) lk).trans k0, (b3.cell (p := ⟨w.heap.size + 1, 1, none⟩) lk).trans k1, (b3.cell (p := ⟨b, off + i, none⟩) lb).trans c0⟩) (fun hHeld => ?_)
  clear hK K
  try simp only [List.getElem_toArray, List.getElem_cons_zero, List.getElem_cons_succ, Act.put, List.setIfInBounds_toArray, List.set_cons_zero, List.set_cons_succ]
  refine wpAnyH_take (i := 8) (v := ?_) rfl (by kernel_rfl) (by kernel_rfl) (by kernel_rfl) (fun _ _ _ h => h) (Or.inl ⟨by rfl, ?_⟩) (by assumption) ?_
  rotate_left 1
  · (intro wS hSw; (try dsimp only at hSw); go_simp; try with_reducible rfl)
  try simp only [List.getElem_toArray, List.getElem_cons_zero, List.getElem_cons_succ, Act.put, List.setIfInBounds_toArray, List.set_cons_zero, List.set_cons_succ]
  refine wpAnyH_take (i := 9) (v := ?_) rfl (by kernel_rfl) (by kernel_rfl) (by kernel_rfl) (fun _ _ _ h => h) (Or.inl ⟨by rfl, ?_⟩) (by assumption) ?_
  rotate_left 1
  · (intro wS hSw; (try dsimp only at hSw); go_simp; try with_reducible rfl)
  try simp only [List.getElem_toArray, List.getElem_cons_zero, List.getElem_cons_succ, Act.put, List.setIfInBounds_toArray, List.set_cons_zero, List.set_cons_succ]
  refine wpAnyH_done (by kernel_rfl) ?_ _
  refine NoPanic.normal ?_
  go_wp2_with fail
  go_ret2
  exact ⟨v3, rfl, HV3.out.move (Nat.le_refl _) (fun x _ hx => ⟨rfl, by have h1 := HB2.out.size; have hx' : w2.heap.size ≤ x := hx; show w.heap.size ≤ x; omega⟩), HB2.out.trans (b3.mono HB2.out.size)⟩
end Go.Proofs.YthdolmofeeniaaaGreatDoor
end
section
/- Plain: a block key while it is dealt. -/
set_option linter.unusedSimpArgs false
set_option linter.unusedVariables false
namespace Go.Proofs.YthdolmofeeniaaaGreatDoor
open Go.RowKit
/-- components of fields below j, ascending, each fitting -/
structure KeyD (F : List F2) (j : Nat) (K : List (Int × Int)) : Prop where
  len : K.length ≤ 3
  fit : ∀ c ∈ K, 0 ≤ c.1 ∧ c.1 < j ∧ fitsB c.2 (F.getD c.1.toNat default).2 = true
  asc : ∀ i, i + 1 < K.length → (K.getD i (0, 0)).1 < (K.getD (i + 1) (0, 0)).1
theorem KeyD.nil (F : List F2) : KeyD F 0 [] := ⟨by simp, fun c h => by simp at h, fun i h => by simp at h⟩
theorem KeyD.skip {F : List F2} {j : Nat} {K : List (Int × Int)} (h : KeyD F j K) : KeyD F (j + 1) K := ⟨h.len, fun c hc => by obtain ⟨a, b, d⟩ := h.fit c hc; exact ⟨a, by omega, d⟩, h.asc⟩
theorem getD_snoc {α : Type} (L : List α) (x d : α) (i : Nat) : (L ++ [x]).getD i d = if i < L.length then L.getD i d else if i = L.length then x else d := by
  simp only [List.getD_eq_getElem?_getD, List.getElem?_append]
  split
  · rfl
  · next h =>
    split
    · next h2 => subst h2; simp
    · next h2 =>
      have : (([x] : List α)[i - L.length]?) = none := by rw [List.getElem?_eq_none_iff]; simp; omega
      rw [this]; rfl
theorem KeyD.snoc {F : List F2} {j : Nat} {K : List (Int × Int)} {t : Int} (h : KeyD F j K) (hl : K.length < 3) (ht : fitsB t (F.getD j default).2 = true) : KeyD F (j + 1) (K ++ [((j : Int), t)]) := by
  refine ⟨by simp; omega, fun c hc => ?_, fun i hi => ?_⟩
  · rcases List.mem_append.1 hc with h1 | h1
    · obtain ⟨a, b, d⟩ := h.fit c h1
      exact ⟨a, by omega, d⟩
    · simp at h1; subst h1
      exact ⟨by simp, by simp only [Int.natCast_add]; omega, by simpa using ht⟩
  · rw [getD_snoc, getD_snoc]
    simp only [List.length_append, List.length_cons, List.length_nil] at hi
    by_cases h1 : i + 1 < K.length
    · rw [if_pos (by omega), if_pos h1]; exact h.asc i h1
    · have h2 : i + 1 = K.length := by omega
      rw [if_pos (by omega), if_neg h1, if_pos h2]
      have hm : K.getD i (0, 0) ∈ K := by rw [List.getD, List.getElem?_eq_getElem (by omega)]; exact List.getElem_mem _
      exact (h.fit _ hm).2.1
theorem orderC_lt {a b : Int × Int} (h : a.1 < b.1) : orderC a b < 0 := by
  have e : cmp3 a.1 b.1 = -1 := by unfold cmp3; rw [if_pos h]
  unfold orderC orN
  rw [e, if_neg (by decide)]; decide
theorem KeyD.ok {F : List F2} {K : List (Int × Int)} (h : KeyD F F.length K) (h1 : 1 ≤ K.length) : KeyOk F K :=
  ⟨h1, h.len, h.fit, fun i hi => orderC_lt (h.asc i hi)⟩
theorem key_whole {F : List F2} (h : 1 ≤ F.length) : KeyOk F [(0, 1)] :=
  ⟨by simp, by simp, fun c hc => by simp at hc; subst hc; exact ⟨by simp, by simp; omega, rfl⟩, fun i hi => by simp at hi⟩
def ownT (k : Int) : Int := if k = 1 then 2 else if k = 2 then 4 else if k = 3 then 1 else if k = 4 then 5 else 0
theorem fits_own {k : Int} (h : 1 ≤ k ∧ k ≤ 4) : fitsB (ownT k) k = true := by
  rcases (by omega : k = 1 ∨ k = 2 ∨ k = 3 ∨ k = 4) with rfl | rfl | rfl | rfl <;> rfl
end Go.Proofs.YthdolmofeeniaaaGreatDoor
end
section
/- The deck deals a date: a year from 1800 to 2199, a month from 0 to 13, a day from 1 to 32. -/
set_option linter.unusedSimpArgs false
set_option linter.unusedVariables false
namespace Go.Proofs.YthdolmofeeniaaaGreatDoor
open Go.RowKit
theorem deck_law {w w1 : World} {a : Option Addr} {n cap : Nat} {zs : List Int} (hn : n ≤ 400) (hr : IsRow .i64 w a n cap zs) (hb : Below w.heap.size w w1) :
    DeckAt (w1.alloc (.cells #[.slice a n cap, .int .i64 0, .int .u64 11400714819323198485] 106)) w1.heap.size :=
  deck_new hn fun h0 => by
    obtain ⟨b, off, e1, e2, e3⟩ := hr.read h0
    exact ⟨b, off, e1, Nat.lt_of_lt_of_le e2 hb.size, fun i hi => by obtain ⟨x, hx⟩ := e3 i hi; exact ⟨x, (hb.cell (p := ⟨b, off + i, none⟩) e2).trans hx⟩⟩
end Go.Proofs.YthdolmofeeniaaaGreatDoor
end
section
/- recordlinkmake: Schema: the walk. -/
set_option linter.unusedSimpArgs false
set_option linter.unusedVariables false
set_option maxRecDepth 100000
namespace Go.Proofs.YthdolmofeeniaaaGreatDoor
open Go.RowKit
attribute [local go_sem] toList_mk mk_size str_append
def kindsD : List Int := [1, 1, 2, 4, 3]
theorem kindsD_bd (k : Nat) (hk : k < 5) : 1 ≤ kindsD.getD k 0 ∧ kindsD.getD k 0 ≤ 4 := by
  have : ∀ j : Fin 5, 1 ≤ kindsD.getD j 0 ∧ kindsD.getD j 0 ≤ 4 := by decide
  exact this ⟨k, hk⟩
theorem kinds_cell {w : World} {b : Nat} (h : w.heap[b]? = some (.cells (kindsD.map (Value.int .i64)).toArray 3 (0, 0))) (k : Nat) (hk : k < 5) : w.cell? ⟨b, k, none⟩ = some (.int .i64 (kindsD.getD k 0)) := by
  rw [cell_of_row _ _ _ _ _ _ h, List.getElem?_toArray, List.getElem?_map]
  have : k < kindsD.length := hk
  rw [List.getD, List.getElem?_eq_getElem this]; rfl
set_option maxHeartbeats 8000000 in
theorem schema_deal (D : Nat) (w : World) (h : DeckAt w D) :
    Calls Tryz.prog 12 #[.pointer (some ⟨D, 0, none⟩)] w (SchemaPost D w) := by
  have zD := h.lt
  have M0 := Lib.hid (Moved.start h); clear h
  go_enter Tryz.func12, Tryz.ntmps12
  go_wp2_with fail
  refine (rules_deal D _ (M0.out.alloc _).deck).mono ?_
  rintro e w1 ⟨vt, vn, vs, r, rfl, hr, hd, mv⟩
  obtain ⟨at', ct, rfl⟩ := hr.1.slice
  obtain ⟨an, cn, rfl⟩ := hr.2.1.slice
  obtain ⟨as', cs, rfl⟩ := hr.2.2.slice
  have zw : w.heap.size < w1.heap.size := by have := mv.size; simp at this; omega
  have X1 := Lib.hid (show w1.heap[w.heap.size]? = some (.cells nil4 33 (0, 0)) from mv.blk (by omega) (blk_new rfl))
  have M1 := Lib.hid ((M0.out.alloc _).trans mv)
  have HR := Lib.hid hr; have HRD := Lib.hid hd
  clear hr hd mv
  go_wp2_with fail
  have K0 := Lib.hid (show SMid D w w1.heap.size (.slice at' r.titles.length ct) (.slice an r.nicks.length cn) (.slice as' r.streets.length cs) r (.slice none 0 0) [] ((w1.alloc (.cells #[.slice none 0 0, .slice at' r.titles.length ct, .slice an r.nicks.length cn, .slice as' r.streets.length cs] 33)).alloc (.cells (namesD.flatMap encS).toArray 9)) from
    ⟨blk_old (blk_old X1.out), blk_old (blk_new rfl), blk_new (by simp), ⟨rfl, .inl ⟨rfl, rfl⟩⟩, by
      have hb : Below w1.heap.size w1 ((w1.alloc (.cells #[.slice none 0 0, .slice at' r.titles.length ct, .slice an r.nicks.length cn, .slice as' r.streets.length cs] 33)).alloc (.cells (namesD.flatMap encS).toArray 9)) := ((Below.refl _ _).alloc (Nat.le_refl _) _).alloc (by simp) _
      have mvv : ∀ b, b < w1.heap.size → (w.alloc (.cells nil4 33)).heap.size ≤ b → _ ∧ (w.heap.size < b ∧ b < w1.heap.size) := fun b h1 h2 => ⟨hb.block b h1, by simp at h2; omega, h1⟩
      exact ⟨HR.out.1.move hb.size mvv, HR.out.2.1.move hb.size mvv, HR.out.2.2.move hb.size mvv⟩, FieldsD.nil, (M1.out.alloc _).alloc _, zw⟩)
  refine (next_any D _ 4 K0.out.moved.deck (by omega) (by omega)).mono ?_
  rintro e w2 ⟨q, rfl, q0, q1, mv⟩
  obtain ⟨q, rfl⟩ := Int.eq_ofNat_of_zero_le q0
  have K1 := Lib.hid (K0.out.gone zD mv)
  clear mv K0 X1 M1 HR M0
  go_wp2_with fail
  go_loopw [6] (fun i wr => ∃ (k : Nat) (F : List F2) (vf : Value), i = .int .i64 k ∧ k ≤ 1 + q ∧ F.length = k ∧ SMid D w w1.heap.size (.slice at' r.titles.length ct) (.slice an r.nicks.length cn) (.slice as' r.streets.length cs) r vf F wr) (fun i _ => 1 + q - (intOf i).toNat)
  case atStart => exact ⟨0, [], _, rfl, by omega, rfl, K1.out⟩
  case round =>
    obtain ⟨k, F, vf, rfl, hk, hF, hm⟩ := hrel
    have HF := Lib.hid hF; have KM := Lib.hid hm
    clear hm hF K1
    by_cases hlt : k < 1 + q
    · have hq : decide ((k : Int) < 1 + q) = true := by simp; omega
      have hix : (k : Int) < 5 := by omega
      have hc : (wr.alloc (.cells #[.int .i64 1, .int .i64 1, .int .i64 2, .int .i64 4, .int .i64 3] 3)).cell? ⟨wr.heap.size, k, none⟩ = _ := kinds_cell (w := wr.alloc (.cells (kindsD.map (Value.int .i64)).toArray 3)) (b := wr.heap.size) (blk_new rfl) k (by omega)
      obtain ⟨kb1, kb2⟩ := kindsD_bd k (by omega)
      obtain ⟨kd, hkd⟩ : ∃ kd, kindsD.getD k 0 = kd := ⟨_, rfl⟩
      rw [hkd] at hc kb1 kb2
      clear hkd
      go_wp2_with fail
      refine (one_any D _ 4 (KM.out.moved.alloc _).deck (by omega) (by omega)).mono ?_
      rintro e w3 ⟨u, rfl, mv⟩
      have KN := Lib.hid (KM.out.gone zD (((Moved.start KM.out.moved.deck).alloc _).trans mv))
      clear hc mv
      go_upto_if 25 with (fail)
      go_cut [7] (fun s7 wx => ∃ kd : Int, s7 = .int .i64 kd ∧ 1 ≤ kd ∧ kd ≤ 4 ∧ SMid D w w1.heap.size (.slice at' r.titles.length ct) (.slice an r.nicks.length cn) (.slice as' r.streets.length cs) r vf F wx)
      case first =>
        cases u
        · go_wp2_with fail
          go_meet
          exact ⟨kd, rfl, kb1, kb2, KN.out⟩
        · go_wp2_with fail
          refine (next_any D _ 4 KN.out.moved.deck (by omega) (by omega)).mono ?_
          rintro e w4 ⟨p, rfl, p0, p1, mv⟩
          have KO := Lib.hid (KN.out.gone zD mv)
          clear mv
          go_wp2_with fail
          go_meet
          exact ⟨1 + p, rfl, by omega, by omega, KO.out⟩
      case rest =>
        obtain ⟨kx, rfl, kx1, kx2, hm⟩ := hcut
        have KX := Lib.hid hm
        clear hm KM KN kb1 kb2
        obtain ⟨av, cv, hav⟩ := own_slice KX.out.own
        rw [HF.out] at hav
        subst hav
        have cY := (cells4 KX.out.s).1
        have cN := KX.out.n.cell k (by show k < 5; omega)
        have zY := lt_of_blk KX.out.n
        have zY0 : w1.heap.size < wc.heap.size := by omega
        obtain ⟨nm, hnm⟩ : ∃ nm, namesD.getD k [] = nm := ⟨_, rfl⟩
        rw [hnm] at cN
        have HNM := Lib.hid hnm; clear hnm
        go_wp2_with fail
        have hown := own_below KX.out.own (((Below.refl _ _).alloc (Nat.le_refl _) (.cells #[strV nm, .int .i64 kx] 92)).drew)
        have hnews : ∀ j u, [strV nm, Value.int .i64 kx][j]? = some u → ((wc.alloc (.cells #[strV nm, .int .i64 kx] 92)).drew).cell? ((⟨wc.heap.size, 0, none⟩ : Addr).add j) = some u := fun j u hu => by
          rw [add_plain, World.cell?_drew, cell_of_row _ _ _ _ _ _ (heap_alloc_new wc _), Nat.zero_add]; simpa using hu
        have hone : ∀ u ∈ [strV nm, Value.int .i64 kx], u.oneCell' = true := by intro u hu; simp at hu; rcases hu with rfl | rfl <;> rfl
        obtain ⟨i0, hi, hz0, hz1, hz2⟩ := info_parts infoF
        have hbA := ((Below.refl _ wc).alloc (Nat.le_refl _) (.cells #[strV nm, .int .i64 kx] 92)).drew
        have HBA := Lib.hid hbA; have HOwn := Lib.hid hown; have HNews := Lib.hid hnews; have HOne := Lib.hid hone; have HI := Lib.hid hi; have HZ0 := Lib.hid hz0; have HZ1 := Lib.hid hz1; have HZ2 := Lib.hid hz2
        have fY := (frozen_of_row _ _ _ _ _ KX.out.s : wc.frozen? ⟨w1.heap.size, 0, none⟩ = false)
        clear hbA hown hnews hone hi hz0 hz1 hz2
        rw [HF.out] at HOwn
        go_region_law (((refine step_append_lies _ rfl (.tmp 30) (.tmp 37) 27 (by rfl) (w1.heap.size + 2) 92 i0 (.agg #[.string ⟨#[]⟩, .int .i64 0]) 2 24 Tryz.underlying27 HI.out HZ0.out HZ1.out HZ2.out rfl (by decide) (.slice av k cv) k (F.flatMap encF) (by rfl) HOwn.out ⟨wc.heap.size, 0, none⟩ 1 1 [strV nm, .int .i64 kx] (by rfl) rfl HNews.out HOne.out (by omega) (by unfold maxLen; omega) (by omega) (by simp; omega) (wc.heap.size + 1) (by simp) ?_); intro g cap w5 hown5 hg5 hat5 hlt5; have cY5 := (hg5.cell_far ⟨w1.heap.size, 0, none⟩ (by simp; omega) (own_far HOwn.out (by show w1.heap.size < _; omega))).trans ((HBA.out.cell (p := ⟨w1.heap.size, 0, none⟩) (by show w1.heap.size < _; omega)).trans cY); have fY5 := (hg5.frozen_far ⟨w1.heap.size, 0, none⟩ (by simp; omega) (own_far HOwn.out (by show w1.heap.size < _; omega))).trans ((HBA.out.frozen (p := ⟨w1.heap.size, 0, none⟩) (by show w1.heap.size < _; omega)).trans fY)))
        all_goals
          have hfd := KX.out.fields.snoc (by rw [HF.out]; omega) kx1 kx2
          rw [HF.out, HNM.out] at hfd
          have hown6 := hown5
          rw [show F.flatMap encF ++ [strV nm, .int .i64 kx] = F.flatMap encF ++ encF (nm, kx) from rfl, ← HF.out] at hown6
          have KS := Lib.hid (KX.out.step (x := (nm, kx)) zD HBA.out hg5 hown6 hfd)
          rw [HF.out] at KS
          clear hfd hown6 hown5 hg5 hat5 cY5 fY5
          go_wp2_with fail
          go_roundw
          case rel => exact ⟨k + 1, F ++ [(nm, kx)], _, by go_num, by omega, by rw [List.length_append, HF.out]; rfl, KS.out⟩
          case measure => simp [intOf]; omega
    · have hq : decide ((k : Int) < 1 + q) = false := by simp; omega
      obtain ⟨av, cv, hav⟩ := own_slice KM.out.own
      subst hav
      have HZ := Lib.hid KM.out.z
      have HM := Lib.hid KM.out.moved
      have HR := Lib.hid KM.out.rules
      have HO := Lib.hid KM.out.own
      have HFd := Lib.hid KM.out.fields
      obtain ⟨c0, c1, c2, c3⟩ := cells4 KM.out.s
      obtain ⟨d0, d1, d2, d3⟩ := cells4 KM.out.z
      have g0 := (frozen_of_row _ _ _ _ _ KM.out.z : wr.frozen? ⟨w.heap.size, 0, none⟩ = false)
      have g1 := (frozen_of_row _ _ _ _ _ KM.out.z : wr.frozen? ⟨w.heap.size, 1, none⟩ = false)
      have g2 := (frozen_of_row _ _ _ _ _ KM.out.z : wr.frozen? ⟨w.heap.size, 2, none⟩ = false)
      have g3 := (frozen_of_row _ _ _ _ _ KM.out.z : wr.frozen? ⟨w.heap.size, 3, none⟩ = false)
      have z0 := lt_of_blk KM.out.z
      have z1 := lt_of_blk KM.out.s
      clear KM
      go_wp2_with fail
      have hz := (blk_set (i := 3) (v := (.slice as' r.streets.length cs)) (blk_set (i := 2) (v := (.slice an r.nicks.length cn)) (blk_set (i := 1) (v := (.slice at' r.titles.length ct)) (blk_set (i := 0) (v := (.slice av F.length cv)) HZ.out))))
      have hm := ((((HM.out.set (a := ⟨w.heap.size, 0, none⟩) (Nat.le_refl _) (.slice av F.length cv)).set (a := ⟨w.heap.size, 1, none⟩) (Nat.le_refl _) (.slice at' r.titles.length ct)).set (a := ⟨w.heap.size, 2, none⟩) (Nat.le_refl _) (.slice an r.nicks.length cn)).set (a := ⟨w.heap.size, 3, none⟩) (Nat.le_refl _) (.slice as' r.streets.length cs))
      have hv := (((((Vec.owns (k := 2) (enc := encF) (S := fun b => w.heap.size < b) (fun _ => rfl) HO.out (fun b h1 _ => by omega)).set1 (a := ⟨w.heap.size, 0, none⟩) (fun b h => Nat.ne_of_gt h) (.slice av F.length cv)).set1 (a := ⟨w.heap.size, 1, none⟩) (fun b h => Nat.ne_of_gt h) (.slice at' r.titles.length ct)).set1 (a := ⟨w.heap.size, 2, none⟩) (fun b h => Nat.ne_of_gt h) (.slice an r.nicks.length cn)).set1 (a := ⟨w.heap.size, 3, none⟩) (fun b h => Nat.ne_of_gt h) (.slice as' r.streets.length cs))
      have ht := (((((HR.out.1.weaken (S' := fun b => w.heap.size < b) fun b h => h.1).set1 (a := ⟨w.heap.size, 0, none⟩) (fun b h => Nat.ne_of_gt h) (.slice av F.length cv)).set1 (a := ⟨w.heap.size, 1, none⟩) (fun b h => Nat.ne_of_gt h) (.slice at' r.titles.length ct)).set1 (a := ⟨w.heap.size, 2, none⟩) (fun b h => Nat.ne_of_gt h) (.slice an r.nicks.length cn)).set1 (a := ⟨w.heap.size, 3, none⟩) (fun b h => Nat.ne_of_gt h) (.slice as' r.streets.length cs))
      have hn := (((((HR.out.2.1.weaken (S' := fun b => w.heap.size < b) fun b h => h.1).set1 (a := ⟨w.heap.size, 0, none⟩) (fun b h => Nat.ne_of_gt h) (.slice av F.length cv)).set1 (a := ⟨w.heap.size, 1, none⟩) (fun b h => Nat.ne_of_gt h) (.slice at' r.titles.length ct)).set1 (a := ⟨w.heap.size, 2, none⟩) (fun b h => Nat.ne_of_gt h) (.slice an r.nicks.length cn)).set1 (a := ⟨w.heap.size, 3, none⟩) (fun b h => Nat.ne_of_gt h) (.slice as' r.streets.length cs))
      have hs := (((((HR.out.2.2.weaken (S' := fun b => w.heap.size < b) fun b h => h.1).set1 (a := ⟨w.heap.size, 0, none⟩) (fun b h => Nat.ne_of_gt h) (.slice av F.length cv)).set1 (a := ⟨w.heap.size, 1, none⟩) (fun b h => Nat.ne_of_gt h) (.slice at' r.titles.length ct)).set1 (a := ⟨w.heap.size, 2, none⟩) (fun b h => Nat.ne_of_gt h) (.slice an r.nicks.length cn)).set1 (a := ⟨w.heap.size, 3, none⟩) (fun b h => Nat.ne_of_gt h) (.slice as' r.streets.length cs))
      have hw : ∀ b, w.heap.size < b → w.heap.size ≤ b := fun b h => Nat.le_of_lt h
      have hF1 : 1 ≤ F.length := by have := HF.out; omega
      exact bodyPost_row1 rfl rfl hz Tryz.underlying33 rfl (by kernel_rfl) ⟨_, _, _, _, ⟨F, r⟩, rfl, ⟨hv.weaken hw, ht.weaken hw, hn.weaken hw, hs.weaken hw⟩, ⟨HFd.out, hF1, HRD.out⟩, hm⟩
end Go.Proofs.YthdolmofeeniaaaGreatDoor
end
section
/- What the laws that deal a schema share: where they stand behind it. -/
set_option linter.unusedSimpArgs false
set_option linter.unusedVariables false
set_option maxRecDepth 100000
namespace Go.Proofs.YthdolmofeeniaaaGreatDoor
open Go.RowKit Cal
attribute [local go_sem] toList_mk mk_size str_append
theorem SchemaAt.moved {D : Nat} {w w' : World} {S : Nat → Prop} {vf vt vn vs : Value} {s : SchemaL} (h : SchemaAt w S vf vt vn vs s) (hS : ∀ b, S b → b ≠ D) (m : Moved D w w') : SchemaAt w' S vf vt vn vs s :=
  have mv : ∀ b, b < w.heap.size → S b → w'.heap[b]? = w.heap[b]? ∧ S b := fun b hb hs => ⟨m.grown.block b hb (by have := hS b hs; simp; omega), hs⟩
  ⟨h.1.move m.size mv, h.2.1.move m.size mv, h.2.2.1.move m.size mv, h.2.2.2.move m.size mv⟩
theorem fields_cell {w : World} {S : Nat → Prop} {a : Option Addr} {n cap : Nat} {F : List F2} (h : Vec w S 2 encF (.slice a n cap) F) (h0 : 0 < F.length) : ∃ b off, a = some ⟨b, off, none⟩ ∧ S b ∧ b < w.heap.size ∧ ∀ j, j < F.length → w.cell? ⟨b, off + j * 2 + 1, none⟩ = some (.int .i64 (F.getD j default).2) := by
  obtain ⟨b, off, e, hS, hb, hc⟩ := vec_cell2 h h0
  exact ⟨b, off, e, hS, hb, fun j hj => hc j hj 1 _ rfl⟩
/-- where a law stands that has dealt a schema: the deck in block D, the schema in block y, the kind of a field in cell o of block b -/
structure Drawn (D : Nat) (w : World) (y : Nat) (S : Nat → Prop) (vf vt vn vs : Value) (s : SchemaL) (b o : Nat) (kf : Int) (wr : World) : Prop where
  m : Moved D w wr
  x : wr.heap[y]? = some (.cells #[vf, vt, vn, vs] 33 (0, 0))
  s : SchemaAt wr S vf vt vn vs s
  c : wr.cell? ⟨b, o, none⟩ = some (.int .i64 kf)
  ne : ∀ b, S b → b ≠ D
  yD : y ≠ D
  bD : b ≠ D
theorem Drawn.moved {D : Nat} {w : World} {y : Nat} {S : Nat → Prop} {vf vt vn vs : Value} {s : SchemaL} {b o : Nat} {kf : Int} {wr wd : World} (h : Drawn D w y S vf vt vn vs s b o kf wr) (m : Moved D wr wd) : Drawn D w y S vf vt vn vs s b o kf wd :=
  ⟨h.m.trans m, m.blk h.yD h.x, h.s.moved h.ne m, (World.cell?_of_block (w := wr) (a := ⟨b, o, none⟩) (m.grown.block b (World.block_lt_of_cell? _ ⟨b, o, none⟩ h.c) (by have := h.bD; simp; omega))).trans h.c, h.ne, h.yD, h.bD⟩
theorem Drawn.below {D : Nat} {w : World} {y : Nat} {S : Nat → Prop} {vf vt vn vs : Value} {s : SchemaL} {b o : Nat} {kf : Int} {wr wd : World} (h : Drawn D w y S vf vt vn vs s b o kf wr) (hb : Below wr.heap.size wr wd) : Drawn D w y S vf vt vn vs s b o kf wd :=
  h.moved ((Moved.start h.m.deck).below hb)
end Go.Proofs.YthdolmofeeniaaaGreatDoor
end
section
/- recordlinkmake: BlockKeys: some block keys of a schema. -/
set_option linter.unusedSimpArgs false
set_option linter.unusedVariables false
set_option maxRecDepth 100000
namespace Go.Proofs.YthdolmofeeniaaaGreatDoor
open Go.RowKit
attribute [local go_sem] toList_mk mk_size str_append
theorem infoC : (Tryz.prog.info? 48).map (fun i => (i.zero, i.size, i.bytes)) = some (some (.agg #[.int .i64 0, .int .i64 0]), 2, 16) := by kernel_rfl
theorem one_encSV : ∀ x : SV, ∀ u ∈ encSV x, u.oneCell' = true := by intro x u hu; simp at hu; subst hu; rfl
theorem KeysAll.move {w w' : World} {S T : Nat → Prop} {C : List SV} {Ks : List (List (Int × Int))} (h : KeysAll w S C Ks) (hz : w.heap.size ≤ w'.heap.size) (hS : ∀ x, x < w.heap.size → S x → w'.heap[x]? = w.heap[x]? ∧ T x) : KeysAll w' T C Ks :=
  ⟨h.1, fun n h1 h2 => (h.2 n h1 h2).move hz hS⟩
theorem KeysAll.snoc {w : World} {S : Nat → Prop} {C : List SV} {Ks : List (List (Int × Int))} {c : SV} {K : List (Int × Int)} (h : KeysAll w S C Ks) (hc : Vec w S 2 encC (.slice c.a c.n c.c) K) : KeysAll w S (C ++ [c]) (Ks ++ [K]) := by
  refine ⟨by simp [h.1], fun n h1 h2 => ?_⟩
  by_cases hn : n < C.length
  · rw [List.getElem_append_left hn, List.getElem_append_left (by rw [← h.1]; exact hn)]; exact h.2 n _ _
  · have : n = C.length := by simp at h1; omega
    subst this
    rw [List.getElem_append_right (Nat.le_refl _), List.getElem_append_right (by rw [h.1]; exact Nat.le_refl _)]
    simpa [h.1] using hc
section
variable {α : Type} {P : Program} {w : World} {ops : Array Oper} {rest : List Oper} {o : Oper} {a : Act} {Q : Exit → Act → World → Prop}
/-- append while the deck moves on; where the row lies afterwards -/
theorem wpList_append_mat (hgd : o.guard = none) (s x : Operand) (t : TypeId) (ho : o.op = .call { callee := .builtin .append, args := #[s, x], argTypes := #[t, t] })
    (D e : Nat) (z : Value) (size bytes : Nat) (enc : α → List Value) (hk : ∀ x, (enc x).length = size) (h1 : ∀ x, ∀ u ∈ enc x, u.oneCell' = true) (ht : P.underlying t = some (.slice e)) (hinfo : (P.info? e).map (fun i => (i.zero, i.size, i.bytes)) = some (some z, size, bytes))
    (hzs : z.cells.size = size) (hsz : 0 < size) (hby : bytes ≤ 128) {wA : World} {v u : Value} {A B : List α} (hs : a.eval s = v) (hown : OwnM D e size enc wA v A w) (hx : a.eval x = u) (hr : Reads w size u B.length (B.flatMap enc)) (hn : A.length + B.length ≤ 1000000000)
    (h : ∀ v' w', OwnM D e size enc wA v' (A ++ B) w' → (∀ k o, some k ≠ v.ownBlock → w.heap[k]? = some o → w'.heap[k]? = some o) → w.heap.size ≤ w'.heap.size → (v'.ownBlock = none ∨ v.ownBlock = v'.ownBlock ∨ v'.ownBlock = some w.heap.size) → wpList P ops Q rest (a.put o.dst v') w') : wpList P ops Q (o :: rest) a w := by
  refine wpList_plain hgd fun K hK => ?_
  refine wp_append_reads s x t ho wA.heap.size e z size bytes ht hinfo hzs hsz v A.length (A.flatMap enc) hs hown.1 u B.length (B.flatMap enc) hx hr (fun u hu => ?_) (by unfold maxLen; omega) ?_ hown.2.size ?_
  · obtain ⟨y, _, hy⟩ := List.mem_flatMap.1 hu
    exact h1 y u hy
  · exact Nat.le_trans (Nat.mul_le_mul hn hby) (by decide)
  · intro v' w' ho' hg hat
    refine hK _ _ (h v' w' ⟨by rw [List.length_append, List.flatMap_append]; exact ho', hown.2.grown' hg fun k hk => ?_⟩ (fun k o hk hko => (hg.block k (lt_of_blk hko) hk).trans hko) hg.size hat)
    rcases hown.1.2 with ⟨rfl, _⟩ | ⟨g, cap, cur, rfl, hg1, _⟩
    · simp [Value.ownBlock] at hk
    · have : g = k := by simpa [Value.ownBlock] using hk
      omega
end
theorem infoBK : (Tryz.prog.info? 46).map (fun i => (i.zero, i.size, i.bytes)) = some (some (.agg #[.slice none 0 0]), 1, 24) := by kernel_rfl
/-- block keys that are being dealt: the outer row -/
structure KOut (D : Nat) (W : World) (F : List F2) (v : Value) (C : List SV) (Ks : List (List (Int × Int))) (wr : World) : Prop where
  own : OwnM D 46 1 encSV W v C wr
  keys : KeysAll wr (OffRow W.heap.size v) C Ks
  ok : ∀ K ∈ Ks, KeyOk F K
theorem KOut.nil {D : Nat} {W wr : World} {F : List F2} (m : Moved D W wr) : KOut D W F (.slice none 0 0) [] [] wr := ⟨OwnM.nil m, ⟨rfl, fun n h => by simp at h⟩, fun K h => by simp at h⟩
theorem KOut.moved {D : Nat} {W wr wx : World} {F : List F2} {v : Value} {C : List SV} {Ks : List (List (Int × Int))} (h : KOut D W F v C Ks wr) (m : Moved D wr wx) : KOut D W F v C Ks wx :=
  ⟨h.own.moved m, h.keys.move m.size fun x hx hs => ⟨m.grown.block x hx (by have := h.own.2.lt; have := hs.1; simp; omega), hs⟩, h.ok⟩
/-- the key that is being dealt: its block y, its components' row -/
structure KIn (D : Nat) (wo : World) (y : Nat) (F : List F2) (f : Nat) (u : Value) (L : List (Int × Int)) (wx : World) : Prop where
  x : wx.heap[y]? = some (.cells #[u] 46 (0, 0))
  own : wx.ownsRow (y + 1) 48 2 u L.length (L.flatMap encC)
  mv : Moved D wo wx
  le : wo.heap.size ≤ y
  key : KeyD F f L
theorem KIn.gone {D : Nat} {wo : World} {y : Nat} {F : List F2} {f : Nat} {u : Value} {L : List (Int × Int)} {wx wd : World} (h : KIn D wo y F f u L wx) (m : Moved D wx wd) : KIn D wo y F f u L wd := by
  have hD := h.mv.lt
  have hle := h.le
  exact ⟨m.blk (by omega) h.x, own_same h.own fun g h1 h2 => m.grown.block g h2 (by simp; omega), h.mv.trans m, hle, h.key⟩
theorem KIn.step {D : Nat} {wo : World} {y : Nat} {F : List F2} {f : Nat} {u v : Value} {L : List (Int × Int)} {c : Int × Int} {wx wA w2 : World} (h : KIn D wo y F f u L wx) (hb : Below wx.heap.size wx wA) (hg : wA.grownBy w2 u.ownBlock)
    (hown : w2.ownsRow (y + 1) 48 2 v (L.length + 1) (L.flatMap encC ++ encC c)) (hx : KeyD F (f + 1) (L ++ [c])) : KIn D wo y F (f + 1) v (L ++ [c]) (w2.setCell ⟨y, 0, none⟩ v) := by
  have hy := h.le
  have hD := h.mv.lt
  have zx := lt_of_blk h.x
  have hz := hb.size; have hz2 := hg.size
  have k1 : ∀ k, k < y + 1 → w2.heap[k]? = wx.heap[k]? := fun k hk => (hg.block k (by omega) (own_far h.own hk)).trans (hb.block k (by omega))
  have k2 : ∀ k, k < y → (w2.setCell ⟨y, 0, none⟩ v).heap[k]? = wx.heap[k]? := fun k hk => (heap_setCell_other _ _ _ _ (by show k ≠ y; omega)).trans (k1 k (by omega))
  have hs : (w2.setCell ⟨y, 0, none⟩ v).heap.size = w2.heap.size := by simp [World.setCell]
  refine ⟨blk_set (i := 0) (v := v) ((k1 y (by omega)).trans h.x), ?_, ?_, hy, hx⟩
  · rw [List.length_append, List.flatMap_append, show [c].flatMap encC = encC c by simp]
    exact own_same hown fun g h1 h2 => heap_setCell_other _ _ _ _ (by simp; omega)
  · have m := h.mv
    refine ⟨⟨hg.os.trans (hb.os.trans m.grown.os), hg.tape.trans (hb.tape.trans m.grown.tape), hg.output.trans (hb.output.trans m.grown.output), by have := m.size; omega, fun k hk hr => ?_⟩, m.deck.same fun k hk => k2 k (by omega), m.lt⟩
    exact (k2 k (by omega)).trans (m.grown.block k hk hr)
def KeysPost (D : Nat) (s : SchemaL) (most : Nat) (w : World) (e : Ending) (w' : World) : Prop := ∃ v Ks, e = .returned v ∧ KeysVec w' (fun b => w.heap.size ≤ b) v Ks ∧ Ks.length ≤ most ∧ (∀ K ∈ Ks, KeyOk s.fields K) ∧ Moved D w w'
def ownTbl : List Int := [0, 2, 4, 1, 5]
theorem tbl_cellK {w : World} {b : Nat} {l : List Int} (h : w.heap[b]? = some (.cells (l.map (Value.int .i64)).toArray 3 (0, 0))) (k : Nat) (hk : k < l.length) : w.cell? ⟨b, k, none⟩ = some (.int .i64 (l.getD k 0)) := by
  rw [cell_of_row _ _ _ _ _ _ h, List.getElem?_toArray, List.getElem?_map, List.getD, List.getElem?_eq_getElem hk]; rfl
theorem ownTbl_eq {k : Int} (h : 1 ≤ k ∧ k ≤ 4) : ownTbl.getD k.toNat 0 = ownT k := by
  rcases (by omega : k = 1 ∨ k = 2 ∨ k = 3 ∨ k = 4) with rfl | rfl | rfl | rfl <;> rfl
set_option maxHeartbeats 8000000 in
theorem keys_deal (D : Nat) (S : Nat → Prop) (vf vt vn vs : Value) (s : SchemaL) (most : Nat) (w : World) (h : DeckAt w D) (hs : SchemaAt w S vf vt vn vs s) (hS : ∀ b, S b → b ≠ D) (hd : SchemaD s) (hm : most ≤ 7) :
    Calls Tryz.prog 13 #[.pointer (some ⟨D, 0, none⟩), .agg #[vf, vt, vn, vs], .int .i64 most] w (KeysPost D s most w) := by
  have zD := h.lt
  have M0 := Lib.hid (Moved.start h); clear h
  obtain ⟨af, cf, rfl⟩ := hs.1.slice
  have h5 := hd.fields.len
  have h1 := hd.some
  have HS := Lib.hid hs; have HSD := Lib.hid hd; have HSne := Lib.hid hS
  clear hs hd hS
  go_enter Tryz.func13, Tryz.ntmps13
  go_wp2_with fail
  refine wp_calls_world (fun W hW => ?_)
  have hm0 : Moved D w W := by rw [hW]; exact M0.out.alloc _
  have hb0 : Below w.heap.size w W := by rw [hW]; exact (Below.refl w.heap.size w).alloc (Nat.le_refl _) _
  have hs0 : W.heap[w.heap.size]? = some (.cells #[.slice af s.fields.length cf, vt, vn, vs] 33 (0, 0)) := by rw [hW]; exact blk_new rfl
  have hzW : W.heap.size = w.heap.size + 1 := by rw [hW]; simp
  clear hW
  have HM := Lib.hid hm0; have HS0 := Lib.hid hs0; have HSW := Lib.hid (HS.out.below hb0); have HZW := Lib.hid hzW
  clear hm0 hs0 hb0 hzW
  obtain ⟨n, hn⟩ : ∃ n, s.fields.length = n := ⟨_, rfl⟩
  rw [hn] at HS0 HSW h5 h1 ⊢
  have HN := Lib.hid hn; clear hn
  refine (next_any D _ (most + 1) HM.out.deck (by omega) (by omega)).mono ?_
  rintro e w1 ⟨q, rfl, q0, q1, mv⟩
  obtain ⟨q, rfl⟩ := Int.eq_ofNat_of_zero_le q0
  have M1 := Lib.hid (HM.out.trans mv)
  have MW := Lib.hid mv
  clear mv
  go_wp2_with fail
  go_loopw [7, 8] (fun v i wr => ∃ (j : Nat) (C : List SV) (Ks : List (List (Int × Int))), i = .int .i64 j ∧ Ks.length + j = q ∧ KOut D W s.fields v C Ks wr) (fun _ i _ => (intOf i).toNat)
  case atStart => exact ⟨q, [], [], rfl, by simp, KOut.nil MW.out⟩
  case round =>
    obtain ⟨j, C, Ks, rfl, hj, ho⟩ := hrel
    have HO := Lib.hid ho; have HJ := Lib.hid hj; clear ho hj
    have hzr := HO.out.own.2.size
    by_cases hlt : 0 < j
    · have hq : decide ((0 : Int) < (j : Int)) = true := by simp; omega
      obtain ⟨wo, rfl⟩ : ∃ wo : World, wo = wr := ⟨_, rfl⟩
      go_wp2_with fail
      refine wp_world (fun Wi hWi => ?_)
      have hbi : Below wo.heap.size wo Wi := by rw [hWi]; exact (Below.refl wo.heap.size wo).alloc (Nat.le_refl _) _
      have hxi : Wi.heap[wo.heap.size]? = some (.cells #[.slice none 0 0] 46 (0, 0)) := by rw [hWi]; exact blk_new rfl
      clear hWi
      have KI := Lib.hid (show KIn D wo wo.heap.size s.fields 0 (.slice none 0 0) [] Wi from ⟨hxi, ⟨rfl, .inl ⟨rfl, rfl⟩⟩, (Moved.start HO.out.own.2.deck).below hbi, Nat.le_refl _, KeyD.nil _⟩)
      clear hbi hxi
      go_loopw [10] (fun t wx => ∃ (f : Nat) (u : Value) (L : List (Int × Int)), t = .int .i64 f ∧ f ≤ n ∧ KIn D wo wo.heap.size s.fields f u L wx) (fun t _ => n - (intOf t).toNat)
      case atStart => exact ⟨0, _, [], rfl, by omega, KI.out⟩
      case round =>
        obtain ⟨f, u, L, rfl, hf, hki⟩ := hrel
        have HI := Lib.hid hki
        obtain ⟨au, cu, rfl⟩ := own_slice hki.own
        have hlen := hki.key.len
        have mWx := HO.out.own.2.trans hki.mv
        have hsx := mWx.blk (k := w.heap.size) (by omega) HS0.out
        obtain ⟨s0, s1, s2, s3⟩ := cellsS hsx
        have hzs := lt_of_blk hsx
        have c0 := (by rw [cell_of_row _ _ _ _ _ _ hki.x]; rfl : wr.cell? ⟨wo.heap.size, 0, none⟩ = some (.slice au L.length cu))
        have zx := lt_of_blk hki.x
        have HMW := Lib.hid mWx; have HSX := Lib.hid hsx
        clear mWx hsx hki KI
        by_cases hfc : f < n ∧ L.length < 3
        · obtain ⟨hfn, hL3⟩ := hfc
          have hqf : decide ((f : Int) < (n : Int)) = true := by simp; omega
          have hqL : decide ((L.length : Int) < 3) = true := by simp; omega
          go_wp2_with fail
          refine (one_any D _ 2 HI.out.mv.deck (by omega) (by omega)).mono ?_
          rintro e w3 ⟨u1, rfl, mv⟩
          have HI3 := Lib.hid (HI.out.gone mv); have HM3 := Lib.hid (HMW.out.trans mv)
          have hs3 := mv.blk (k := w.heap.size) (by omega) HSX.out
          have HS3 := Lib.hid hs3
          clear mv hs3 s0 s1 s2 s3 c0 HI HMW HSX
          cases u1
          · go_wp2_with fail
            go_roundw
            case rel => exact ⟨f + 1, _, L, by go_num, by omega, ⟨HI3.out.x, HI3.out.own, HI3.out.mv, HI3.out.le, HI3.out.key.skip⟩⟩
            case measure => simp [intOf]; omega
          · go_wp2_with fail
            refine (next_any D _ 2 (HI3.out.mv.alloc _).deck (by omega) (by omega)).mono ?_
            rintro e w4 ⟨p, rfl, p0, p1, mv⟩
            obtain ⟨p, rfl⟩ := Int.eq_ofNat_of_zero_le p0
            have mv34 := ((Moved.start HI3.out.mv.deck).alloc (.cells #[.int .i64 1, .int .i64 3] 3)).trans mv
            have htb := mv.blk (k := w3.heap.size) (by have := HI3.out.mv.size; have := HI3.out.mv.lt; omega) (blk_new (w := w3) (o := .cells #[.int .i64 1, .int .i64 3] 3) rfl)
            have hpc := tbl_cellK (l := [1, 3]) htb p (by show p < 2; omega)
            obtain ⟨t1, ht1⟩ : ∃ t1, ([1, 3] : List Int).getD p 0 = t1 := ⟨_, rfl⟩
            rw [ht1] at hpc
            have ht13 : t1 = 1 ∨ t1 = 3 := by
              rw [← ht1]
              rcases (by omega : p = 0 ∨ p = 1) with rfl | rfl
              · exact .inl rfl
              · exact .inr rfl
            have hpi : (p : Int) < 2 := by omega
            have HI4 := Lib.hid (HI3.out.gone mv34); have HM4 := Lib.hid (HM3.out.trans mv34)
            have HS4 := Lib.hid (mv34.blk (k := w.heap.size) (by omega) HS3.out)
            have HT13 := Lib.hid ht13
            have lt3 := lt_of_blk htb
            clear mv mv34 htb ht1 ht13 HI3 HM3 HS3
            go_wp2_with fail
            refine (one_any D _ 2 HI4.out.mv.deck (by omega) (by omega)).mono ?_
            rintro e w5 ⟨u2, rfl, mv⟩
            have HI5 := Lib.hid (HI4.out.gone mv); have HM5 := Lib.hid (HM4.out.trans mv)
            have HS5 := Lib.hid (mv.blk (k := w.heap.size) (by omega) HS4.out)
            have hfF : f < s.fields.length := by rw [HN.out]; exact hfn
            obtain ⟨fb, fo, eaf, hSb, hfb, hfc⟩ := fields_cell HSW.out.1 (by omega)
            cases eaf
            have hbD := HSne.out fb hSb
            have kc := (World.cell?_of_block (w := W) (a := ⟨fb, fo + f * 2 + 1, none⟩) (HM5.out.grown.block fb hfb (by simp; omega))).trans (hfc f hfF)
            have hkd := HSD.out.fields.kinds (s.fields.getD f default) (by rw [List.getD, List.getElem?_eq_getElem hfF]; exact List.getElem_mem hfF)
            obtain ⟨kd, hkde⟩ : ∃ kd, (s.fields.getD f default).2 = kd := ⟨_, rfl⟩
            rw [hkde] at kc hkd
            obtain ⟨kn, rfl⟩ := Int.eq_ofNat_of_zero_le (show 0 ≤ kd by omega)
            have HKD := Lib.hid hkde
            have hk1 : 1 ≤ kn := by omega
            have hk4 : kn ≤ 4 := by omega
            have zfb : fb < w5.heap.size := by have := HM5.out.size; omega
            clear mv HI4 HM4 HS4 hfc hkde hkd hpc lt3 hfb hSb
            go_upto_if 42 with (fail)
            go_cut [11] (fun s11 wx => ∃ t : Int, s11 = .int .i64 t ∧ fitsB t kn = true ∧ KIn D wo wo.heap.size s.fields f (.slice au L.length cu) L wx)
            case first =>
              cases u2
              · go_wp2_with fail
                go_meet
                exact ⟨t1, rfl, by rcases HT13.out with h | h <;> rw [h] <;> rfl, HI5.out⟩
              · obtain ⟨s0, s1, s2, s3⟩ := cellsS HS5.out
                have hzs := lt_of_blk HS5.out
                have htb : (w5.alloc (.cells (ownTbl.map (Value.int .i64)).toArray 3)).heap[w5.heap.size]? = some (.cells (ownTbl.map (Value.int .i64)).toArray 3 (0, 0)) := blk_new rfl
                have hoc := tbl_cellK (l := ownTbl) htb kn (by show kn < 5; omega)
                have hoe : ownTbl.getD kn 0 = ownT kn := ownTbl_eq (k := kn) (by omega)
                rw [hoe] at hoc
                have hoc2 : (w5.alloc (.cells #[.int .i64 0, .int .i64 2, .int .i64 4, .int .i64 1, .int .i64 5] 3)).cell? ⟨w5.heap.size, kn, none⟩ = some (.int .i64 (ownT kn)) := hoc
                have hki : (kn : Int) < 5 := by omega
                have hfi : (f : Int) < (n : Int) := by omega
                obtain ⟨ot, hot⟩ : ∃ ot, ownT kn = ot := ⟨_, rfl⟩
                rw [hot] at hoc2
                have HOT := Lib.hid (show fitsB ot kn = true by rw [← hot]; exact fits_own (by omega))
                have HI6 := Lib.hid (HI5.out.gone ((Moved.start HI5.out.mv.deck).alloc (.cells #[.int .i64 0, .int .i64 2, .int .i64 4, .int .i64 1, .int .i64 5] 3)))
                clear hoc hoe htb hot
                go_wp2_with fail
                go_meet
                exact ⟨ot, rfl, HOT.out, HI6.out⟩
            case rest =>
              obtain ⟨t, rfl, hft, hki⟩ := hcut
              have HX := Lib.hid hki
              clear hki HI5 HM5 HS5 kc HT13
              have cY := (by rw [cell_of_row _ _ _ _ _ _ HX.out.x]; rfl : wc.cell? ⟨wo.heap.size, 0, none⟩ = some (.slice au L.length cu))
              have zY := lt_of_blk HX.out.x
              have fY := (frozen_of_row _ _ _ _ _ HX.out.x : wc.frozen? ⟨wo.heap.size, 0, none⟩ = false)
              have hkey := HX.out.key.snoc (t := t) hL3 (by rw [HKD.out]; exact hft)
              have HKey := Lib.hid hkey
              clear hkey
              have hbA := (Below.refl wc.heap.size wc).alloc (Nat.le_refl _) (.cells #[.int .i64 f, .int .i64 t] 48)
              have hown := own_below HX.out.own hbA
              have hnews : ∀ j u, [Value.int .i64 f, Value.int .i64 t][j]? = some u → (wc.alloc (.cells #[.int .i64 f, .int .i64 t] 48)).cell? ((⟨wc.heap.size, 0, none⟩ : Addr).add j) = some u := fun j u hu => by
                rw [add_plain, cell_of_row _ _ _ _ _ _ (heap_alloc_new wc _), Nat.zero_add]; simpa using hu
              have hone : ∀ u ∈ [Value.int .i64 f, Value.int .i64 t], u.oneCell' = true := by intro u hu; simp at hu; rcases hu with rfl | rfl <;> rfl
              obtain ⟨i0, hi, hz0, hz1, hz2⟩ := info_parts infoC
              have HBA := Lib.hid hbA; have HOwn := Lib.hid hown; have HNews := Lib.hid hnews; have HOne := Lib.hid hone; have HI0 := Lib.hid hi; have HZ0 := Lib.hid hz0; have HZ1 := Lib.hid hz1; have HZ2 := Lib.hid hz2
              clear hbA hown hnews hone hi hz0 hz1 hz2
              go_wp2_with (at_builtin; refine wpList_append_lies _ rfl (.tmp 53) (.tmp 57) 44 (by rfl) (wo.heap.size + 1) 48 i0 (.agg #[.int .i64 0, .int .i64 0]) 2 16 Tryz.underlying44 HI0.out HZ0.out HZ1.out HZ2.out rfl (by decide) (.slice au L.length cu) L.length (L.flatMap encC) (by rfl) HOwn.out ⟨wc.heap.size, 0, none⟩ 1 1 [.int .i64 f, .int .i64 t] (by rfl) rfl HNews.out HOne.out (by omega) (by unfold maxLen; omega) (by omega) (by simp; omega) (wc.heap.size + 1) (by simp) ?_; intro g cap w6 hown5 hg5 hat5 hlt5; have cY5 := (hg5.cell_far ⟨wo.heap.size, 0, none⟩ (by simp; omega) (own_far HOwn.out (by show wo.heap.size < _; omega))).trans ((HBA.out.cell (p := ⟨wo.heap.size, 0, none⟩) zY).trans cY); have fY5 := (hg5.frozen_far ⟨wo.heap.size, 0, none⟩ (by simp; omega) (own_far HOwn.out (by show wo.heap.size < _; omega))).trans ((HBA.out.frozen (p := ⟨wo.heap.size, 0, none⟩) zY).trans fY))
              have KS := Lib.hid (HX.out.step (c := ((f : Int), t)) HBA.out hg5 hown5 HKey.out)
              clear hown5 hg5 hat5 cY5 fY5
              go_roundw
              case rel => exact ⟨f + 1, _, L ++ [((f : Int), t)], by go_num, by omega, KS.out⟩
              case measure => simp [intOf]; omega
        · have hcase : (decide ((f : Int) < (n : Int)) = false ∧ ¬ f < n) ∨ ((decide ((f : Int) < (n : Int)) = true ∧ f < n) ∧ decide ((L.length : Int) < 3) = false) := by
            by_cases h1 : f < n
            · exact .inr ⟨⟨by simp; omega, h1⟩, by simp; omega⟩
            · exact .inl ⟨by simp; omega, h1⟩
          have HKy := Lib.hid (show KeyD s.fields s.fields.length L from ⟨HI.out.key.len, fun c hc => by obtain ⟨x1, x2, x3⟩ := HI.out.key.fit c hc; exact ⟨x1, by rw [HN.out]; omega, x3⟩, HI.out.key.asc⟩)
          have fY := (frozen_of_row _ _ _ _ _ HI.out.x : wr.frozen? ⟨wo.heap.size, 0, none⟩ = false)
          clear hfc
          rcases hcase with ⟨hqf, hqn⟩ | ⟨⟨hqf, hqn⟩, hqL⟩
          all_goals
            go_upto_if 63 with (fail)
            go_cut [8] (fun s8 wx => s8 = .int .i64 j ∧ ∃ (u' : SV) (K : List (Int × Int)), wx.heap[wo.heap.size]? = some (.cells #[.slice u'.a u'.n u'.c] 46 (0, 0)) ∧ Vec wx (fun b => wo.heap.size < b) 2 encC (.slice u'.a u'.n u'.c) K ∧ KeyOk s.fields K ∧ Moved D wo wx)
            case first =>
              by_cases hl0 : L.length = 0
              · have hq0 : ((L.length : Int) == 0) = true := by simp; exact List.length_eq_zero_iff.1 hl0
                have hL0 : L = [] := List.length_eq_zero_iff.1 hl0
                have HX := Lib.hid HI.out.x
                have HMV := Lib.hid HI.out.mv
                clear HKy HI
                go_wp2_with fail
                go_meet
                refine ⟨rfl, ⟨some ⟨wr.heap.size, 0, none⟩, 1, 1⟩, [(0, 1)], blk_old (blk_set (i := 0) HX.out), ?_, key_whole (by rw [HN.out]; exact h1), (HMV.out.set (a := ⟨wo.heap.size, 0, none⟩) (Nat.le_refl _) _).alloc _⟩
                exact blockVec (k := 2) (enc := encC) (L := [(0, 1)]) (S := fun b => wo.heap.size < b) (w := (wr.setCell ⟨wo.heap.size, 0, none⟩ (.slice (some ⟨wr.heap.size, 0, none⟩) 1 1)).alloc (.cells #[.int .i64 0, .int .i64 1] 48)) (A := wr.heap.size) (fun _ => rfl) (blk_new (by simp [World.setCell])) (by omega) 1 rfl
              · have hq0 : ((L.length : Int) == 0) = false := by simp; intro h; exact hl0 (by rw [h]; rfl)
                go_wp2_with fail
                go_meet
                exact ⟨rfl, ⟨au, L.length, cu⟩, L, HI.out.x, (Vec.owns (k := 2) (enc := encC) (S := fun b => wo.heap.size < b) (fun _ => rfl) HI.out.own (fun b hb _ => hb)), HKy.out.ok (by omega), HI.out.mv⟩
            case rest =>
              obtain ⟨rfl, u', K, hx, hv, hkk, mv⟩ := hcut
              have hown6 : ∀ x, wo.heap.size ≤ x → some x ≠ u7.ownBlock := by
                intro x hx'
                rcases HO.out.own.1.2 with ⟨h0, _⟩ | ⟨g, cap, cur, h0, hg, hh, _⟩
                · rw [h0]; simp [Value.ownBlock]
                · rw [h0]; have := lt_of_blk hh; simp [Value.ownBlock]; omega
              have HO2 := Lib.hid (HO.out.moved (mv.alloc (.cells #[.slice u'.a u'.n u'.c] 46)))
              have c0 := (by rw [cell_of_row _ _ _ _ _ _ hx]; rfl : wc.cell? ⟨wo.heap.size, 0, none⟩ = some (.slice u'.a u'.n u'.c))
              have HR2 := Lib.hid (show Reads (wc.alloc (.cells #[.slice u'.a u'.n u'.c] 46)) 1 (.slice (some ⟨wc.heap.size, 0, none⟩) 1 1) [u'].length ([u'].flatMap encSV) from reads_block (xs := [u'].flatMap encSV) (fr := (0, 0)) (t := 46) (blk_new rfl) rfl)
              have HCB := Lib.hid (hv.move (w' := wc) (S' := fun x => some x ≠ u7.ownBlock ∧ W.heap.size ≤ x) (Nat.le_refl _) (fun x _ hx' => ⟨rfl, by have h' : wo.heap.size < x := hx'; exact ⟨hown6 x (by omega), by omega⟩⟩))
              have HBA2 := Lib.hid ((HO.out.moved mv).keys.move (w' := wc) (T := fun x => some x ≠ u7.ownBlock ∧ W.heap.size ≤ x) (Nat.le_refl _) (fun x hx' hs => ⟨rfl, hs.2, hs.1⟩))
              have hCn : C.length = Ks.length := HO.out.keys.1
              have hjj := HJ.out
              have hcn : C.length + [u'].length ≤ 1000000000 := by simp only [List.length_cons, List.length_nil]; omega
              have HKK := Lib.hid hkk
              have HOk := Lib.hid HO.out.ok
              obtain ⟨ua, un, uc⟩ := u'
              dsimp only at c0
              clear hx hv hkk mv HKy HI HO
              go_wp2_with (at_builtin; refine wpList_append_mat rfl (.tmp 67) (.tmp 69) 35 rfl D 46 (.agg #[.slice none 0 0]) 1 24 encSV (fun _ => rfl) one_encSV Tryz.underlying35 infoBK rfl (by decide) (by decide) (wA := W) (v := u7) (A := C) (B := [⟨ua, un, uc⟩]) rfl HO2.out.own rfl HR2.out hcn ?_; intro v4 w4 ho4 hk4 hz4 hat4)
              have hba : KeysAll wc (fun x => some x ≠ u7.ownBlock ∧ W.heap.size ≤ x) (C ++ [⟨ua, un, uc⟩]) (Ks ++ [K]) := HBA2.out.snoc HCB.out
              go_roundw
              case rel =>
                refine ⟨j - 1, C ++ [⟨ua, un, uc⟩], Ks ++ [K], by go_num, by rw [List.length_append]; simp; omega, ho4, hba.move ?_ ?_, ?_⟩
                · simp at hz4; omega
                · intro x hx hS
                  obtain ⟨q1, q2⟩ := hS
                  refine ⟨?_, q2, ?_⟩
                  · obtain ⟨ob, hob⟩ : ∃ ob, wc.heap[x]? = some ob := ⟨_, Array.getElem?_eq_getElem hx⟩
                    rw [hob]
                    exact hk4 x ob q1 (blk_old hob)
                  · rcases hat4 with h1 | h1 | h1
                    · rw [h1]; simp
                    · rw [← h1]; exact q1
                    · rw [h1]; simp; omega
                · intro K' hK'
                  rcases List.mem_append.1 hK' with h1 | h1
                  · exact HOk.out K' h1
                  · simp at h1; rw [h1]; exact HKK.out
              case measure => simp [intOf]; omega
    · have hq : decide ((0 : Int) < (j : Int)) = false := by simp; omega
      obtain rfl : j = 0 := by omega
      go_wp2_with fail
      go_ret
      exact ⟨_, Ks, rfl, ⟨C, (OwnM.vec (size := 1) (enc := encSV) (fun _ => rfl) HO.out.own).move (Nat.le_refl _) (fun x _ hx => ⟨rfl, by have h1 := HZW.out; have hx' : W.heap.size ≤ x := hx; show w.heap.size ≤ x; omega⟩), HO.out.keys.move (Nat.le_refl _) (fun x _ hx => ⟨rfl, by have h1 := HZW.out; have hx' := hx.1; show w.heap.size ≤ x; omega⟩)⟩, by have := HJ.out; omega, HO.out.ok, HM.out.trans HO.out.own.2⟩
end Go.Proofs.YthdolmofeeniaaaGreatDoor
end
section
/- blocking, the program's: All of valid block keys and records. -/
set_option linter.unusedSimpArgs false
set_option linter.unusedVariables false
set_option maxRecDepth 100000
namespace Go.Proofs.YthdolmofeeniaaaGreatDoor
open Go.RowKit
/-- lists of blocks -/
def BListsAll (w : World) (S : Nat → Prop) (C : List SV) (Ls : List (List BkP)) : Prop := C.length = Ls.length ∧ ∀ n (h1 : n < C.length) (h2 : n < Ls.length), BlocksAt w S (.slice C[n].a C[n].n C[n].c) Ls[n]
def BListsAt (w : World) (S : Nat → Prop) (v : Value) (Ls : List (List BkP)) : Prop := ∃ C, Vec w S 1 encSV v C ∧ BListsAll w S C Ls
theorem BListsAll.move {w w' : World} {S T : Nat → Prop} {C : List SV} {Ls : List (List BkP)} (h : BListsAll w S C Ls) (hz : w.heap.size ≤ w'.heap.size) (hS : ∀ x, x < w.heap.size → S x → w'.heap[x]? = w.heap[x]? ∧ T x) : BListsAll w' T C Ls :=
  ⟨h.1, fun n h1 h2 => (h.2 n h1 h2).move hz hS⟩
theorem BListsAll.snoc {w : World} {S : Nat → Prop} {C : List SV} {Ls : List (List BkP)} {c : SV} {L : List BkP} (h : BListsAll w S C Ls) (hc : BlocksAt w S (.slice c.a c.n c.c) L) : BListsAll w S (C ++ [c]) (Ls ++ [L]) := by
  refine ⟨by simp [h.1], fun n h1 h2 => ?_⟩
  by_cases hn : n < C.length
  · rw [List.getElem_append_left hn, List.getElem_append_left (by rw [← h.1]; exact hn)]; exact h.2 n _ _
  · have : n = C.length := by simp at h1; omega
    subst this
    rw [List.getElem_append_right (Nat.le_refl _), List.getElem_append_right (by rw [h.1]; exact Nat.le_refl _)]
    simpa [h.1] using hc
theorem BListsAt.move {w w' : World} {S T : Nat → Prop} {v : Value} {Ls : List (List BkP)} (h : BListsAt w S v Ls) (hz : w.heap.size ≤ w'.heap.size) (hS : ∀ x, x < w.heap.size → S x → w'.heap[x]? = w.heap[x]? ∧ T x) : BListsAt w' T v Ls := by
  obtain ⟨C, h1, h2⟩ := h
  exact ⟨C, h1.move hz hS, h2.move hz hS⟩
theorem BListsAt.below {w w' : World} {S : Nat → Prop} {v : Value} {Ls : List (List BkP)} (h : BListsAt w S v Ls) (hb : Below w.heap.size w w') : BListsAt w' S v Ls := h.move hb.size fun x hx hs => ⟨hb.block x hx, hs⟩
theorem BListsAt.slice {w : World} {S : Nat → Prop} {v : Value} {Ls : List (List BkP)} (h : BListsAt w S v Ls) : ∃ a cap, v = .slice a Ls.length cap := by
  obtain ⟨C, h1, h2⟩ := h
  obtain ⟨a, cap, rfl⟩ := h1.slice
  exact ⟨a, cap, by rw [h2.1]⟩
theorem BListsAt.at {w : World} {S : Nat → Prop} {a : Option Addr} {n cap : Nat} {Ls : List (List BkP)} (h : BListsAt w S (.slice a n cap) Ls) (j : Nat) (hj : j < Ls.length) :
    ∃ (b off : Nat) (c : SV), a = some ⟨b, off, none⟩ ∧ b < w.heap.size ∧ w.cell? ⟨b, off + j, none⟩ = some (.slice c.a c.n c.c) ∧ BlocksAt w S (.slice c.a c.n c.c) Ls[j] := by
  obtain ⟨C, hC, hA⟩ := h
  have hj2 : j < C.length := by rw [hA.1]; exact hj
  obtain ⟨b, off, e, hb, hc⟩ := hC.get j hj2
  exact ⟨b, off, C[j], e, hb, by have := hc 0 _ rfl; simpa using this, hA.2 j hj2 hj⟩
/-- the blocks of the first j block keys -/
def blksN (k : Int × Int) (Ks : List (List (Int × Int))) (R : List RecL) (j : Nat) : List (List BkP) := (List.range j).map fun i => blocksN k i (Ks.getD i []) R
theorem blksN_succ (k : Int × Int) (Ks : List (List (Int × Int))) (R : List RecL) (j : Nat) : blksN k Ks R (j + 1) = blksN k Ks R j ++ [blocksN k j (Ks.getD j []) R] := by
  unfold blksN; rw [List.range_succ, List.map_append]; rfl
theorem infoBS : (Tryz.prog.info? 67).map (fun i => (i.zero, i.size, i.bytes)) = some (some (.slice none 0 0), 1, 24) := by kernel_rfl
def AllPost (Ls : List (List BkP)) (w : World) (e : Ending) (w' : World) : Prop := ∃ v, e = .returned (.tuple #[v, .int .i64 0]) ∧ BListsAt w' (fun b => w.heap.size ≤ b) v Ls ∧ Below w.heap.size w w'
set_option maxHeartbeats 8000000 in
theorem bAll_yes (S T : Nat → Prop) (vf vt vn vs kv rv : Value) (s : SchemaL) (k : Int × Int) (Ks : List (List (Int × Int))) (R : List RecL) (w : World) (h : SchemaAt w S vf vt vn vs s) (hk : KeysVec w T kv Ks) (hr : RecsVec w Any1 rv R) (hR : RecsOk s R) (hn : s.fields.length ≤ 1000) (ok : KeysOk s.fields Ks) :
    Calls Tryz.prog 27 #[.agg #[vf, vt, vn, vs], .agg #[.int .u64 k.1, .int .u64 k.2], kv, rv] w (AllPost (blksN k Ks R Ks.length) w) := by
  obtain ⟨ak, ck, rfl⟩ := hk.slice
  obtain ⟨ar, cr, rfl⟩ := hr.slice
  have hc := (allN_ok hR.all).1
  have h64 := (allN_ok hR.all).2.1
  have h8 := ok.len
  have HS := Lib.hid h; have HK := Lib.hid hk; have HV := Lib.hid hr; have HRO := Lib.hid hR; have HOk := Lib.hid ok; have HC := Lib.hid hc
  have dz : ((0 : Int) != 0) = false := rfl
  clear h hk hr hR ok hc
  go_enter Tryz.func27, Tryz.ntmps27
  go_wp2_with fail
  refine wp_calls_world (fun W hW => ?_)
  have hb0 : Below w.heap.size w W := by rw [hW]; exact ((Below.refl w.heap.size w).alloc (Nat.le_refl _) _).alloc (by simp) _
  have hs0 : W.heap[w.heap.size]? = some (.cells #[vf, vt, vn, vs] 33 (0, 0)) := by rw [hW]; exact blk_old (blk_new rfl)
  have hk0 : W.heap[w.heap.size + 1]? = some (.cells #[.int .u64 k.1, .int .u64 k.2] 39 (0, 0)) := by rw [hW]; exact blk_new (by simp)
  clear hW
  refine (bchk_yes S T _ _ _ _ _ s Ks W (HS.out.below hb0) (HK.out.below hb0) HC.out (by omega) HOk.out).mono ?_
  rintro e w1 ⟨rfl, hb⟩
  have hs1 := blk_below hb (lt_of_blk hs0) hs0; have hk1 := blk_below hb (lt_of_blk hk0) hk0
  have HB1 := Lib.hid (hb0.trans (hb.mono hb0.size)); have HK1 := Lib.hid hk1
  obtain ⟨s0, s1, s2, s3⟩ := cellsS hs1
  have ls := lt_of_blk hs1
  clear hb hb0 hs0 hk0 hs1 hk1
  go_wp2_with fail
  refine (rall_any S Any1 _ _ _ _ _ s R w1 (HS.out.below HB1.out) (HV.out.below HB1.out) (fun r hr x hx => by have := HRO.out.short r hr x hx; omega) (HRO.out.vals hn) (by omega)).mono ?_
  rw [HRO.out.all]
  rintro e w2 ⟨rfl, hb⟩
  have hk2 := blk_below hb (lt_of_blk HK1.out) HK1.out
  have HB2 := Lib.hid (HB1.out.trans (hb.mono HB1.out.size)); have HK2 := Lib.hid hk2
  have lk := lt_of_blk hk2
  clear hb s0 s1 s2 s3 hk2 ls
  go_wp2_with fail
  go_loopw [12, 29] (fun v t wr => ∃ (j : Nat) (C : List SV), t = .int .i64 j ∧ j ≤ Ks.length ∧ C.length = j ∧ OwnV 67 1 encSV w2 v C wr ∧ BListsAll wr (OffRow w2.heap.size v) C (blksN k Ks R j)) (fun _ t _ => Ks.length - (intOf t).toNat)
  case atStart => exact ⟨0, [], rfl, by omega, rfl, OwnV.start _ _ _ _, rfl, fun n h1 _ => by simp at h1⟩
  case round =>
    obtain ⟨j, C, rfl, hj, hCl, ho, hba⟩ := hrel
    have HO := Lib.hid ho; have HBA := Lib.hid hba; have HCl := Lib.hid hCl
    clear ho hba hCl
    by_cases hlt : j < Ks.length
    · have hq : decide ((j : Int) < Ks.length) = true := by simp; omega
      have hji : (j : Int) < (Ks.length : Int) := by omega
      have hbw := HO.out.2
      have hwz := hbw.size
      obtain ⟨k0, k1⟩ := cells2K (blk_below hbw lk HK2.out)
      have lkr : w.heap.size + 1 < wr.heap.size := by omega
      obtain ⟨b, off, c, rfl, lb, c0, hvc⟩ := ((HK.out.below HB2.out).below hbw).at j hlt
      obtain ⟨ca, cn, cc⟩ := c
      dsimp only at c0 hvc
      have hkey := HOk.out.key (Ks.getD j []) (by rw [getD_at _ _ hlt]; exact List.getElem_mem hlt)
      have hsucc := blksN_succ k Ks R j
      obtain ⟨L, hL⟩ : ∃ L, blocksN k j (Ks.getD j []) R = L := ⟨_, rfl⟩
      rw [hL] at hsucc
      have HVC := Lib.hid hvc; have HKey := Lib.hid hkey; have HSu := Lib.hid hsucc; have HL := Lib.hid hL
      have HBw := Lib.hid hbw
      clear hvc hkey hsucc hL hbw
      go_wp2_with fail
      refine wp_calls_world (fun Wc hWc => ?_)
      have hbc : Below wr.heap.size wr Wc := by rw [hWc]; exact (Below.refl wr.heap.size wr).alloc (Nat.le_refl _) _
      have hzc : Wc.heap.size = wr.heap.size + 1 := by rw [hWc]; simp
      clear hWc
      refine (blocks_yes T k _ (Ks.getD j []) j _ R Wc (HVC.out.below hbc) (((HV.out.below HB2.out).below HBw.out).below hbc) (HRO.out.vals hn) (HRO.out.comps HKey.out) (by omega) (by omega)).mono ?_
      rw [HL.out]
      rintro e w4 ⟨v4, rfl, hv4, hb4⟩
      obtain ⟨a4, c4, rfl⟩ := hv4.slice
      have hb2 := hbc.trans (hb4.mono hbc.size)
      have hb3 : Below wr.heap.size wr (w4.alloc (.cells #[.slice a4 L.length c4] 67)) := hb2.alloc hb2.size _
      have HO2 := Lib.hid (HO.out.below hb3)
      have HR2 := Lib.hid (show Reads (w4.alloc (.cells #[.slice a4 L.length c4] 67)) 1 (.slice (some ⟨w4.heap.size, 0, none⟩) 1 1) [(⟨a4, L.length, c4⟩ : SV)].length ([(⟨a4, L.length, c4⟩ : SV)].flatMap encSV) from reads_block (xs := [(⟨a4, L.length, c4⟩ : SV)].flatMap encSV) (fr := (0, 0)) (t := 67) (blk_new rfl) rfl)
      have hown6 : ∀ x, wr.heap.size ≤ x → some x ≠ u12.ownBlock := by
        intro x hx
        rcases HO.out.1.2 with ⟨h0, _⟩ | ⟨g, cap, cur, h0, hg, hh, _⟩
        · rw [h0]; simp [Value.ownBlock]
        · rw [h0]; have := lt_of_blk hh; simp [Value.ownBlock]; omega
      have HCB := Lib.hid (hv4.move (w' := w4) (T := fun x => some x ≠ u12.ownBlock ∧ w2.heap.size ≤ x) (Nat.le_refl _) (fun x _ hx => ⟨rfl, by have hx' : Wc.heap.size ≤ x := hx; exact ⟨hown6 x (by omega), by omega⟩⟩))
      have HBA2 := Lib.hid (HBA.out.move (w' := w4) (T := fun x => some x ≠ u12.ownBlock ∧ w2.heap.size ≤ x) hb2.size (fun x hx hs => ⟨hb2.block x hx, hs.2, hs.1⟩))
      have hcn : C.length + [(⟨a4, L.length, c4⟩ : SV)].length ≤ 1000000000 := by rw [HCl.out]; simp only [List.length_cons, List.length_nil]; omega
      have hz2 := hb2.size
      clear hv4 hb4 hb2 hb3 hbc c0 k0 k1
      go_wp2_with (at_builtin; refine wpList_append_at rfl (.tmp 34) (.tmp 40) 63 rfl 67 (.slice none 0 0) 1 24 encSV (fun _ => rfl) one_encSV Tryz.underlying63 infoBS rfl (by decide) (by decide) (w0 := w2) (v := u12) (A := C) (B := [(⟨a4, L.length, c4⟩ : SV)]) rfl HO2.out rfl HR2.out hcn ?_; intro v5 w5 ho5 hk5 hz5 hat5)
      have hba : BListsAll w4 (fun x => some x ≠ u12.ownBlock ∧ w2.heap.size ≤ x) (C ++ [(⟨a4, L.length, c4⟩ : SV)]) (blksN k Ks R (j + 1)) := by
        rw [HSu.out]
        exact HBA2.out.snoc HCB.out
      go_roundw
      case rel =>
        refine ⟨j + 1, C ++ [(⟨a4, L.length, c4⟩ : SV)], by go_num, by omega, by rw [List.length_append, HCl.out]; rfl, ho5, hba.move ?_ ?_⟩
        · simp at hz5; omega
        · intro x hx hS
          obtain ⟨q1, q2⟩ := hS
          refine ⟨?_, q2, ?_⟩
          · obtain ⟨ob, hob⟩ : ∃ ob, w4.heap[x]? = some ob := ⟨_, Array.getElem?_eq_getElem hx⟩
            rw [hob]
            exact hk5 x ob q1 (blk_old hob)
          · rcases hat5 with h1 | h1 | h1
            · rw [h1]; simp
            · rw [← h1]; exact q1
            · rw [h1]; simp; omega
      case measure => simp [intOf]; omega
    · have hq : decide ((j : Int) < Ks.length) = false := by simp; omega
      obtain rfl : j = Ks.length := by omega
      go_wp2_with fail
      go_ret2
      exact ⟨_, rfl, ⟨C, (OwnV.vec (size := 1) (enc := encSV) (fun _ => rfl) HO.out).move (Nat.le_refl _) (fun x _ hx => ⟨rfl, Nat.le_trans HB2.out.size hx⟩), HBA.out.move (Nat.le_refl _) (fun x _ hx => ⟨rfl, Nat.le_trans HB2.out.size hx.1⟩)⟩, HB2.out.trans (HO.out.2.mono HB2.out.size)⟩
end Go.Proofs.YthdolmofeeniaaaGreatDoor
end
section
/- The sanity check of the laws of blocks. -/
set_option linter.unusedSimpArgs false
set_option linter.unusedVariables false
set_option maxRecDepth 100000
namespace Go.Proofs.YthdolmofeeniaaaGreatDoor
open Go.RowKit Cal
attribute [local go_sem] toList_mk mk_size
theorem BlocksAt.at {w : World} {S : Nat → Prop} {a : Option Addr} {n cap : Nat} {L : List BkP} (h : BlocksAt w S (.slice a n cap) L) (j : Nat) (hj : j < L.length) :
    ∃ (b off : Nat) (x : BkV), a = some ⟨b, off, none⟩ ∧ b < w.heap.size ∧ w.cell? ⟨b, off + j * 2, none⟩ = some (.int .u64 L[j].1) ∧ w.cell? ⟨b, off + j * 2 + 1, none⟩ = some (idV x) ∧ x.n = L[j].2.length ∧ Vec w S 1 encIn (idV x) L[j].2 := by
  obtain ⟨C, h1, h2, h3⟩ := h
  have hj2 : j < C.length := by rw [← h2, List.length_map] at hj; exact hj
  obtain ⟨b, off, e, hb, hc⟩ := h1.get j hj2
  subst h2
  have e1 : (C.map pB)[j] = pB C[j] := by rw [List.getElem_map]
  have hv := h3 C[j] (List.getElem_mem hj2)
  refine ⟨b, off, C[j], e, hb, ?_, hc 1 _ rfl, ?_, ?_⟩
  · rw [e1]; exact hc 0 _ rfl
  · rw [e1]; exact hv.len.1
  · rw [e1]; exact hv
def awK : SchemaL := ⟨[([103, 105, 118, 101, 110], 1)], [], [], []⟩
def awRobert : List UInt8 := [114, 111, 98, 101, 114, 116]
def awRupert : List UInt8 := [114, 117, 112, 101, 114, 116]
def awR : List RecL := [⟨1, 1, [awRobert]⟩, ⟨4, 1, [awRupert]⟩, ⟨5, 1, [[]]⟩]
theorem awK_check : checkS awK = 0 := by kernel_rfl
theorem awK_keys : KeysOk awK.fields [[(0, 2)]] := ⟨by decide, fun K hK => by
  simp at hK; subst hK
  exact ⟨by decide, by decide, fun c hc => by simp at hc; subst hc; exact ⟨by decide, by decide, by kernel_rfl⟩, fun i hi => by simp at hi⟩⟩
theorem awR_ok : RecsOk awK awR := ⟨by kernel_rfl, fun r hr x hx => by
  simp [awR] at hr
  rcases hr with rfl | rfl | rfl <;> (simp at hx; subst hx; decide)⟩
theorem awR_ascii : ascii awRobert := by unfold ascii; decide
theorem awK_parts : [((0 : Int), (2 : Int))].map (compN [awRobert]) = [[114, 49, 54, 51]] ∧ [((0 : Int), (2 : Int))].map (compN [awRupert]) = [[114, 49, 54, 51]] ∧ [((0 : Int), (2 : Int))].map (compN [[]]) = [[]] := ⟨by decide +kernel, by decide +kernel, by decide +kernel⟩
theorem awK_blocks : ∃ h : Int, blocksN (0, 0) 0 [(0, 2)] awR = [(h, [1, 4])] ∧ bhashN (0, 0) 0 ([((0 : Int), (2 : Int))].map (compN [awRobert])) = (h, true) := by
  obtain ⟨p1, p2, p3⟩ := awK_parts
  refine ⟨(bhashN (0, 0) 0 [[114, 49, 54, 51]]).1, ?_, ?_⟩
  · have e : ∀ h : Int × Bool, h.2 = true → addAll [] [(h, 1), (h, 4), ((0, false), 5)] = [(h.1, [1, 4])] := by
      rintro ⟨h, b⟩ hb
      have hb' : b = true := hb
      subst hb'
      simp [addAll, addB]
    rw [← e (bhashN (0, 0) 0 [[114, 49, 54, 51]]) (by unfold bhashN; rw [if_neg (by decide)])]
    unfold blocksN
    refine congrArg (addAll []) ?_
    show [blkPair (0, 0) 0 [(0, 2)] ⟨1, 1, [awRobert]⟩, blkPair (0, 0) 0 [(0, 2)] ⟨4, 1, [awRupert]⟩, blkPair (0, 0) 0 [(0, 2)] ⟨5, 1, [[]]⟩] = _
    unfold blkPair
    dsimp only
    rw [p1, p2, p3, show bhashN (0, 0) 0 [[]] = (0, false) by unfold bhashN; rw [if_pos (by decide)]]
  · rw [p1]
    refine Prod.ext rfl ?_
    unfold bhashN
    first | done | rw [if_neg (by decide)]
def awRV (a b c : Nat) : List RV := [⟨1, 1, some ⟨a, 0, none⟩, 1, 1, [awRobert]⟩, ⟨4, 1, some ⟨b, 0, none⟩, 1, 1, [awRupert]⟩, ⟨5, 1, some ⟨c, 0, none⟩, 1, 1, [[]]⟩]
set_option maxHeartbeats 8000000 in
theorem awake_b (w : World) : Calls Tryz.prog 9 #[] w fun e w' => e = .returned (.bool true) ∧ Below w.heap.size w w' := by
  go_enter Tryz.func9, Tryz.ntmps9
  go_wp2_with fail
  refine wp_calls_world (fun W hW => ?_)
  have hb0 : Below w.heap.size w W := by rw [hW]; exact ((((((((Below.refl w.heap.size w).alloc (Nat.le_refl _) _).alloc (by simp <;> omega) _).alloc (by simp <;> omega) _).alloc (by simp <;> omega) _).alloc (by simp <;> omega) _).alloc (by simp <;> omega) _).alloc (by simp <;> omega) _).alloc (by simp <;> omega) _
  obtain ⟨A7, hA7⟩ : ∃ A, w.heap.size + 1 + 1 + 1 + 1 + 1 + 1 + 1 = A := ⟨_, rfl⟩
  obtain ⟨A6, hA6⟩ : ∃ A, w.heap.size + 1 + 1 + 1 + 1 + 1 + 1 = A := ⟨_, rfl⟩
  obtain ⟨A5, hA5⟩ : ∃ A, w.heap.size + 1 + 1 + 1 + 1 + 1 = A := ⟨_, rfl⟩
  obtain ⟨A4, hA4⟩ : ∃ A, w.heap.size + 1 + 1 + 1 + 1 = A := ⟨_, rfl⟩
  obtain ⟨A3, hA3⟩ : ∃ A, w.heap.size + 1 + 1 + 1 = A := ⟨_, rfl⟩
  obtain ⟨A2, hA2⟩ : ∃ A, w.heap.size + 1 + 1 = A := ⟨_, rfl⟩
  obtain ⟨A1, hA1⟩ : ∃ A, w.heap.size + 1 = A := ⟨_, rfl⟩
  have hf0 : W.heap[w.heap.size]? = some (.cells #[strV [103, 105, 118, 101, 110], .int .i64 1] 92 (0, 0)) := by rw [hW]; exact blk_old (blk_old (blk_old (blk_old (blk_old (blk_old (blk_old (blk_new rfl)))))))
  have hs0 : W.heap[A1]? = some (.cells #[.slice (some ⟨w.heap.size, 0, none⟩) 1 1, .slice none 0 0, .slice none 0 0, .slice none 0 0] 33 (0, 0)) := by rw [hW, ← hA1]; exact blk_old (blk_old (blk_old (blk_old (blk_old (blk_old (blk_new (by first | rfl | (simp; done) | (simp; omega) | omega)))))))
  have hc0 : W.heap[A2]? = some (.cells ([((0 : Int), (2 : Int))].flatMap encC).toArray 48 (0, 0)) := by rw [hW, ← hA2]; exact blk_old (blk_old (blk_old (blk_old (blk_old (blk_new (by first | rfl | (simp; done) | (simp; omega) | omega))))))
  have hk0 : W.heap[A3]? = some (.cells ([(⟨some ⟨A2, 0, none⟩, 1, 1⟩ : SV)].flatMap encSV).toArray 46 (0, 0)) := by rw [hW, ← hA3, ← hA2]; exact blk_old (blk_old (blk_old (blk_old (blk_new (by first | rfl | (simp; done) | (simp; omega) | omega)))))
  have hv4 : W.heap[A4]? = some (.cells ([awRobert].flatMap encS).toArray 9 (0, 0)) := by rw [hW, ← hA4]; exact blk_old (blk_old (blk_old (blk_new (by first | rfl | (simp; done) | (simp; omega) | omega))))
  have hv5 : W.heap[A5]? = some (.cells ([awRupert].flatMap encS).toArray 9 (0, 0)) := by rw [hW, ← hA5]; exact blk_old (blk_old (blk_new (by first | rfl | (simp; done) | (simp; omega) | omega)))
  have hv6 : W.heap[A6]? = some (.cells (([[]] : List (List UInt8)).flatMap encS).toArray 9 (0, 0)) := by rw [hW, ← hA6]; exact blk_old (blk_new (by first | rfl | (simp; done) | (simp; omega) | omega))
  have hr7 : W.heap[A7]? = some (.cells ((awRV A4 A5 A6).flatMap encRV).toArray 42 (0, 0)) := by rw [hW, ← hA7, ← hA6, ← hA5, ← hA4]; exact blk_new (by first | rfl | (simp; done) | (simp; omega) | omega)
  rw [hA7, hA6, hA5, hA4, hA3, hA2, hA1]
  clear hW
  have hSA : SchemaAt W Any1 (.slice (some ⟨w.heap.size, 0, none⟩) 1 1) (.slice none 0 0) (.slice none 0 0) (.slice none 0 0) awK := ⟨vecF_one hf0, Vec.nil _ _ _ _, Vec.nil _ _ _ _, Vec.nil _ _ _ _⟩
  have hKA : KeysVec W Any1 (.slice (some ⟨A3, 0, none⟩) 1 1) [[(0, 2)]] := ⟨[⟨some ⟨A2, 0, none⟩, 1, 1⟩], blockVec (k := 1) (enc := encSV) (L := [(⟨some ⟨A2, 0, none⟩, 1, 1⟩ : SV)]) (S := Any1) (fun _ => rfl) hk0 trivial 1 rfl, rfl, fun n h1 h2 => by
    obtain rfl : n = 0 := by simp at h1; omega
    exact blockVec (k := 2) (enc := encC) (L := [(0, 2)]) (S := Any1) (fun _ => rfl) hc0 trivial 1 rfl⟩
  have hRA : RecsVec W Any1 (.slice (some ⟨A7, 0, none⟩) 3 3) awR := ⟨awRV A4 A5 A6, blockVec (k := 3) (enc := encRV) (L := awRV A4 A5 A6) (S := Any1) (fun _ => rfl) hr7 trivial 3 rfl, rfl, fun x hx => by
    simp [awRV] at hx
    rcases hx with rfl | rfl | rfl
    · exact blockVec (k := 1) (enc := encS) (L := [awRobert]) (S := Any1) (fun _ => rfl) hv4 trivial 1 rfl
    · exact blockVec (k := 1) (enc := encS) (L := [awRupert]) (S := Any1) (fun _ => rfl) hv5 trivial 1 rfl
    · exact blockVec (k := 1) (enc := encS) (L := [[]]) (S := Any1) (fun _ => rfl) hv6 trivial 1 rfl⟩
  have hV1 : Vec W Any1 1 encS (.slice (some ⟨A4, 0, none⟩) 1 1) [awRobert] := blockVec (k := 1) (enc := encS) (L := [awRobert]) (S := Any1) (fun _ => rfl) hv4 trivial 1 rfl
  obtain ⟨h, hbe, hhe⟩ := awK_blocks
  have HHE := Lib.hid hhe
  have lk2 := lt_of_blk hc0
  have g0 := (by rw [cell_of_row _ _ _ _ _ _ hk0]; rfl : W.cell? ⟨A3, 0, none⟩ = some (.slice (some ⟨A2, 0, none⟩) 1 1))
  have g1 := (by rw [cell_of_row _ _ _ _ _ _ hc0]; rfl : W.cell? ⟨A2, 0, none⟩ = some (.int .i64 0))
  have g2 := (by rw [cell_of_row _ _ _ _ _ _ hc0]; rfl : W.cell? ⟨A2, 1, none⟩ = some (.int .i64 2))
  clear hf0 hc0 hv4 hv5 hv6 hhe hA2 hA3 hA4 hA5 hA6 hA7
  have lk3 := lt_of_blk hk0; have ls1 := lt_of_blk hs0; have lr7 := lt_of_blk hr7
  obtain ⟨s0, s1, s2, s3⟩ := cellsS hs0
  have r0 := (by rw [cell_of_row _ _ _ _ _ _ hr7]; rfl : W.cell? ⟨A7, 0, none⟩ = some (.int .i64 1))
  have r1 := (by rw [cell_of_row _ _ _ _ _ _ hr7]; rfl : W.cell? ⟨A7, 1, none⟩ = some (.int .i64 1))
  have r2 := (by rw [cell_of_row _ _ _ _ _ _ hr7]; rfl : W.cell? ⟨A7, 2, none⟩ = some (.slice (some ⟨A4, 0, none⟩) 1 1))
  refine (bBlocks_yes Any1 Any1 _ _ _ _ _ _ awK (0, 0) [[(0, 2)]] 0 awR W hSA hKA hRA awR_ok (by decide) awK_keys (by decide)).mono ?_
  rw [show ([[(0, 2)]] : List (List (Int × Int))).getD 0 [] = [(0, 2)] from rfl, hbe]
  rintro e w1 ⟨vb, rfl, hvb, hb⟩
  obtain ⟨ab, cb, rfl⟩ := hvb.slice
  obtain ⟨bb, ob, x, rfl, lb, b0, b1, hxn, hvi⟩ := hvb.at 0 (by simp)
  dsimp only [List.getElem_cons_zero] at b0 hxn hvi
  rw [Nat.zero_mul, Nat.add_zero] at b0 b1
  obtain ⟨xh, xa, xn, xc, xi⟩ := x
  dsimp only at hxn
  have hxn' : xn = 2 := hxn
  subst hxn'
  obtain ⟨ib, io, exa, lib, hic⟩ := hvi.get 1 (by simp)
  cases exa
  have i1 := hic 0 _ rfl
  have i1' : w1.cell? ⟨ib, io + 1, none⟩ = some (.int .i64 4) := by simpa using i1
  have HB1 := Lib.hid (hb0.trans (hb.mono hb0.size)); have HSA1 := Lib.hid (hSA.below hb); have HKA1 := Lib.hid (hKA.below hb); have HV1 := Lib.hid (hV1.below hb)
  have t0 := (hb.cell (p := ⟨A1, 0, none⟩) ls1).trans s0; have t1 := (hb.cell (p := ⟨A1, 1, none⟩) ls1).trans s1; have t2 := (hb.cell (p := ⟨A1, 2, none⟩) ls1).trans s2; have t3 := (hb.cell (p := ⟨A1, 3, none⟩) ls1).trans s3
  have q0 := (hb.cell (p := ⟨A7, 0, none⟩) lr7).trans r0; have q1 := (hb.cell (p := ⟨A7, 1, none⟩) lr7).trans r1; have q2 := (hb.cell (p := ⟨A7, 2, none⟩) lr7).trans r2
  have k0 := (hb.cell (p := ⟨A3, 0, none⟩) lk3).trans g0; have c0 := (hb.cell (p := ⟨A2, 0, none⟩) lk2).trans g1; have c1 := (hb.cell (p := ⟨A2, 1, none⟩) lk2).trans g2
  have l3 : A3 < w1.heap.size := Nat.lt_of_lt_of_le lk3 hb.size
  have l2 : A2 < w1.heap.size := Nat.lt_of_lt_of_le lk2 hb.size
  have l1 : A1 < w1.heap.size := Nat.lt_of_lt_of_le ls1 hb.size
  have l7 : A7 < w1.heap.size := Nat.lt_of_lt_of_le lr7 hb.size
  clear hb hb0 hSA hKA hRA hV1 s0 s1 s2 s3 r0 r1 r2 hvb hvi hic i1 hs0 hk0 hr7 hxn lk3 lk2 ls1 lr7 hbe g0 g1 g2
  go_wp2_with fail
  have bD : Below w1.heap.size w1 w1.drew := (Below.refl _ _).drew
  refine wp_region_noPanic ?_
  refine wp_region_held_drew (S := (fun w' => w'.cell? ⟨A1, 0, none⟩ = some (.slice (some ⟨w.heap.size, 0, none⟩) 1 1) ∧ w'.cell? ⟨A1, 1, none⟩ = some (.slice none 0 0) ∧ w'.cell? ⟨A1, 2, none⟩ = some (.slice none 0 0) ∧ w'.cell? ⟨A1, 3, none⟩ = some (.slice none 0 0) ∧ w'.cell? ⟨A7, 0, none⟩ = some (.int .i64 1) ∧ w'.cell? ⟨A7, 1, none⟩ = some (.int .i64 1) ∧ w'.cell? ⟨A7, 2, none⟩ = some (.slice (some ⟨A4, 0, none⟩) 1 1))) (by kernel_rfl) (⟨t0, t1, t2, t3, q0, q1, q2⟩) (fun hHeld => ?_)
  refine wpAnyH_take (i := 0) (v := ?_) rfl (by kernel_rfl) (by kernel_rfl) (by kernel_rfl) (fun _ _ _ h => h) (Or.inl ⟨by rfl, ?_⟩) (by assumption) ?_
  rotate_left 1
  · (intro wS hSw; (try dsimp only at hSw); go_simp; try with_reducible rfl)
  try simp only [List.getElem_toArray, List.getElem_cons_zero, List.getElem_cons_succ, Act.put, List.setIfInBounds_toArray, List.set_cons_zero, List.set_cons_succ]
  refine wpAnyH_take (i := 1) (v := ?_) rfl (by kernel_rfl) (by kernel_rfl) (by kernel_rfl) (fun _ _ _ h => h) (Or.inl ⟨by rfl, ?_⟩) (by assumption) ?_
  rotate_left 1
  · (intro wS hSw; (try dsimp only at hSw); go_simp; try with_reducible rfl)
  try simp only [List.getElem_toArray, List.getElem_cons_zero, List.getElem_cons_succ, Act.put, List.setIfInBounds_toArray, List.set_cons_zero, List.set_cons_succ]
  refine wpAnyH_take (i := 2) (v := ?_) rfl (by kernel_rfl) (by kernel_rfl) (by kernel_rfl) (fun _ _ _ h => h) (Or.inl ⟨by rfl, ?_⟩) (by assumption) ?_
  rotate_left 1
  · (intro wS hSw; (try dsimp only at hSw); go_simp; try with_reducible rfl)
  try simp only [List.getElem_toArray, List.getElem_cons_zero, List.getElem_cons_succ, Act.put, List.setIfInBounds_toArray, List.set_cons_zero, List.set_cons_succ]
  refine wpAnyH_take (i := 3) (v := ?_) rfl (by kernel_rfl) (by kernel_rfl) (by kernel_rfl) (fun _ _ _ h => h) (Or.inl ⟨by rfl, ?_⟩) (by assumption) ?_
  rotate_left 1
  · (intro wS hSw; (try dsimp only at hSw); go_simp; try with_reducible rfl)
  try simp only [List.getElem_toArray, List.getElem_cons_zero, List.getElem_cons_succ, Act.put, List.setIfInBounds_toArray, List.set_cons_zero, List.set_cons_succ]
  refine wpAnyH_take (i := 4) (v := ?_) rfl (by kernel_rfl) (by kernel_rfl) (by kernel_rfl) (fun _ _ _ h => h) (Or.inl ⟨by rfl, ?_⟩) (by assumption) ?_
  rotate_left 1
  · (intro wS hSw; (try dsimp only at hSw); go_simp; try with_reducible rfl)
  try simp only [List.getElem_toArray, List.getElem_cons_zero, List.getElem_cons_succ, Act.put, List.setIfInBounds_toArray, List.set_cons_zero, List.set_cons_succ]
  refine wpAnyH_take (i := 5) (v := ?_) rfl (by kernel_rfl) (by kernel_rfl) (by kernel_rfl) (fun _ _ _ h => h) (Or.inl ⟨by rfl, ?_⟩) (by assumption) ?_
  rotate_left 1
  · (intro wS hSw; (try dsimp only at hSw); go_simp; try with_reducible rfl)
  try simp only [List.getElem_toArray, List.getElem_cons_zero, List.getElem_cons_succ, Act.put, List.setIfInBounds_toArray, List.set_cons_zero, List.set_cons_succ]
  refine wpAnyH_ready (rs := [6]) (by kernel_rfl) (by simp) ?_
  refine AllReadyH.cons rfl (fun K hK => ?_) AllReadyH.nil
  go_simp
  refine (bHash_yes Any1 Any1 _ _ _ _ _ awK (0, 0) [[(0, 2)]] 0 ⟨1, 1, [awRobert]⟩ _ _ (HSA1.out.below bD) (HKA1.out.below bD) (HV1.out.below bD) (by kernel_rfl) (by decide) (by decide) awK_keys (by decide)).mono ?_; rw [show ([[(0, 2)]] : List (List (Int × Int))).getD 0 [] = [(0, 2)] from rfl, HHE.out]; rintro e w2 ⟨rfl, hb⟩; have b2 := bD.trans hb; clear hb
  refine hK.out _ _ (⟨(b2.cell (p := ⟨A1, 0, none⟩) l1).trans t0, (b2.cell (p := ⟨A1, 1, none⟩) l1).trans t1, (b2.cell (p := ⟨A1, 2, none⟩) l1).trans t2, (b2.cell (p := ⟨A1, 3, none⟩) l1).trans t3, (b2.cell (p := ⟨A7, 0, none⟩) l7).trans q0, (b2.cell (p := ⟨A7, 1, none⟩) l7).trans q1, (b2.cell (p := ⟨A7, 2, none⟩) l7).trans q2⟩) (fun hHeld => ?_)
  clear hK K
  try simp only [List.getElem_toArray, List.getElem_cons_zero, List.getElem_cons_succ, Act.put, List.setIfInBounds_toArray, List.set_cons_zero, List.set_cons_succ]
  refine wpAnyH_take (i := 7) (v := ?_) rfl (by kernel_rfl) (by kernel_rfl) (by kernel_rfl) (fun _ _ _ h => h) (Or.inl ⟨by rfl, ?_⟩) (by assumption) ?_
  rotate_left 1
  · (intro wS hSw; (try dsimp only at hSw); go_simp; try with_reducible rfl)
  try simp only [List.getElem_toArray, List.getElem_cons_zero, List.getElem_cons_succ, Act.put, List.setIfInBounds_toArray, List.set_cons_zero, List.set_cons_succ]
  refine wpAnyH_take (i := 8) (v := ?_) rfl (by kernel_rfl) (by kernel_rfl) (by kernel_rfl) (fun _ _ _ h => h) (Or.inl ⟨by rfl, ?_⟩) (by assumption) ?_
  rotate_left 1
  · (intro wS hSw; (try dsimp only at hSw); go_simp; try with_reducible rfl)
  try simp only [List.getElem_toArray, List.getElem_cons_zero, List.getElem_cons_succ, Act.put, List.setIfInBounds_toArray, List.set_cons_zero, List.set_cons_succ]
  refine wpAnyH_take (i := 9) (v := ?_) rfl (by kernel_rfl) (by kernel_rfl) (by kernel_rfl) (fun _ _ _ h => h) (Or.inl ⟨by rfl, ?_⟩) (by assumption) ?_
  rotate_left 1
  · (intro wS hSw; (try dsimp only at hSw); go_simp; try with_reducible rfl)
  try simp only [List.getElem_toArray, List.getElem_cons_zero, List.getElem_cons_succ, Act.put, List.setIfInBounds_toArray, List.set_cons_zero, List.set_cons_succ]
  refine wpAnyH_take (i := 10) (v := ?_) rfl (by kernel_rfl) (by kernel_rfl) (by kernel_rfl) (fun _ _ _ h => h) (Or.inl ⟨by rfl, ?_⟩) (by assumption) ?_
  rotate_left 1
  · (intro wS hSw; (try dsimp only at hSw); go_simp; try with_reducible rfl)
  try simp only [List.getElem_toArray, List.getElem_cons_zero, List.getElem_cons_succ, Act.put, List.setIfInBounds_toArray, List.set_cons_zero, List.set_cons_succ]
  refine wpAnyH_take (i := 11) (v := ?_) rfl (by kernel_rfl) (by kernel_rfl) (by kernel_rfl) (fun _ _ _ h => h) (Or.inl ⟨by rfl, ?_⟩) (by assumption) ?_
  rotate_left 1
  · (intro wS hSw; (try dsimp only at hSw); go_simp; try with_reducible rfl)
  try simp only [List.getElem_toArray, List.getElem_cons_zero, List.getElem_cons_succ, Act.put, List.setIfInBounds_toArray, List.set_cons_zero, List.set_cons_succ]
  refine wpAnyH_take (i := 12) (v := ?_) rfl (by kernel_rfl) (by kernel_rfl) (by kernel_rfl) (fun _ _ _ h => h) (Or.inl ⟨by rfl, ?_⟩) (by assumption) ?_
  rotate_left 1
  · (intro wS hSw; (try dsimp only at hSw); go_simp; try with_reducible rfl)
  try simp only [List.getElem_toArray, List.getElem_cons_zero, List.getElem_cons_succ, Act.put, List.setIfInBounds_toArray, List.set_cons_zero, List.set_cons_succ]
  refine wpAnyH_take (i := 13) (v := ?_) rfl (by kernel_rfl) (by kernel_rfl) (by kernel_rfl) (fun _ _ _ h => h) (Or.inl ⟨by rfl, ?_⟩) (by assumption) ?_
  rotate_left 1
  · (intro wS hSw; (try dsimp only at hSw); go_simp; try with_reducible rfl)
  try simp only [List.getElem_toArray, List.getElem_cons_zero, List.getElem_cons_succ, Act.put, List.setIfInBounds_toArray, List.set_cons_zero, List.set_cons_succ]
  refine wpAnyH_done (by kernel_rfl) ?_ _
  refine NoPanic.normal ?_
  have HB2 := Lib.hid (HB1.out.trans (b2.mono HB1.out.size)); have HSA2 := Lib.hid (HSA1.out.below b2); have HKA2 := Lib.hid (HKA1.out.below b2); have HV2 := Lib.hid (HV1.out.below b2)
  have hAll : (fun w' : World => w'.cell? ⟨A1, 0, none⟩ = some (.slice (some ⟨w.heap.size, 0, none⟩) 1 1) ∧ w'.cell? ⟨A1, 1, none⟩ = some (.slice none 0 0) ∧ w'.cell? ⟨A1, 2, none⟩ = some (.slice none 0 0) ∧ w'.cell? ⟨A1, 3, none⟩ = some (.slice none 0 0) ∧ w'.cell? ⟨A7, 0, none⟩ = some (.int .i64 1) ∧ w'.cell? ⟨A7, 1, none⟩ = some (.int .i64 1) ∧ w'.cell? ⟨A7, 2, none⟩ = some (.slice (some ⟨A4, 0, none⟩) 1 1) ∧ w'.cell? ⟨bb, ob, none⟩ = some (.int .u64 h) ∧ w'.cell? ⟨bb, ob + 1, none⟩ = some (.slice (some ⟨ib, io, none⟩) 2 xc) ∧ w'.cell? ⟨ib, io + 1, none⟩ = some (.int .i64 4) ∧ w'.cell? ⟨A3, 0, none⟩ = some (.slice (some ⟨A2, 0, none⟩) 1 1) ∧ w'.cell? ⟨A2, 0, none⟩ = some (.int .i64 0) ∧ w'.cell? ⟨A2, 1, none⟩ = some (.int .i64 2)) w2 := ⟨(b2.cell (p := ⟨A1, 0, none⟩) l1).trans t0, (b2.cell (p := ⟨A1, 1, none⟩) l1).trans t1, (b2.cell (p := ⟨A1, 2, none⟩) l1).trans t2, (b2.cell (p := ⟨A1, 3, none⟩) l1).trans t3, (b2.cell (p := ⟨A7, 0, none⟩) l7).trans q0, (b2.cell (p := ⟨A7, 1, none⟩) l7).trans q1, (b2.cell (p := ⟨A7, 2, none⟩) l7).trans q2, (b2.cell (p := ⟨bb, ob, none⟩) lb).trans b0, (b2.cell (p := ⟨bb, ob + 1, none⟩) lb).trans b1, (b2.cell (p := ⟨ib, io + 1, none⟩) lib).trans i1', (b2.cell (p := ⟨A3, 0, none⟩) l3).trans k0, (b2.cell (p := ⟨A2, 0, none⟩) l2).trans c0, (b2.cell (p := ⟨A2, 1, none⟩) l2).trans c1⟩
  have m1 := Nat.lt_of_lt_of_le l1 b2.size; have m2 := Nat.lt_of_lt_of_le l2 b2.size; have m3 := Nat.lt_of_lt_of_le l3 b2.size; have m7 := Nat.lt_of_lt_of_le l7 b2.size; have mb := Nat.lt_of_lt_of_le lb b2.size; have mi := Nat.lt_of_lt_of_le lib b2.size
  have HP := Lib.hid (show compN [awRobert] (0, 2) = [114, 49, 54, 51] by decide +kernel)
  clear hHeld bD b2 HB1 HSA1 HKA1 HV1 t0 t1 t2 t3 q0 q1 q2 b0 b1 i1' k0 c0 c1 l1 l2 l3 l7 lb lib HHE
  dsimp only at hAll
  obtain ⟨t0, t1, t2, t3, q0, q1, q2, b0, b1, i1', k0, c0, c1⟩ := hAll
  go_wp2_with fail
  have bD : Below w2.heap.size w2 w2.drew := (Below.refl _ _).drew
  refine wp_region_noPanic ?_
  refine wp_region_held_drew (S := (fun w' => w'.cell? ⟨A1, 0, none⟩ = some (.slice (some ⟨w.heap.size, 0, none⟩) 1 1) ∧ w'.cell? ⟨A1, 1, none⟩ = some (.slice none 0 0) ∧ w'.cell? ⟨A1, 2, none⟩ = some (.slice none 0 0) ∧ w'.cell? ⟨A1, 3, none⟩ = some (.slice none 0 0) ∧ w'.cell? ⟨A7, 0, none⟩ = some (.int .i64 1) ∧ w'.cell? ⟨A7, 1, none⟩ = some (.int .i64 1) ∧ w'.cell? ⟨A7, 2, none⟩ = some (.slice (some ⟨A4, 0, none⟩) 1 1) ∧ w'.cell? ⟨bb, ob, none⟩ = some (.int .u64 h) ∧ w'.cell? ⟨bb, ob + 1, none⟩ = some (.slice (some ⟨ib, io, none⟩) 2 xc) ∧ w'.cell? ⟨ib, io + 1, none⟩ = some (.int .i64 4) ∧ w'.cell? ⟨A3, 0, none⟩ = some (.slice (some ⟨A2, 0, none⟩) 1 1) ∧ w'.cell? ⟨A2, 0, none⟩ = some (.int .i64 0) ∧ w'.cell? ⟨A2, 1, none⟩ = some (.int .i64 2))) (by kernel_rfl) (⟨t0, t1, t2, t3, q0, q1, q2, b0, b1, i1', k0, c0, c1⟩) (fun hHeld => ?_)
  refine wpAnyH_take (i := 0) (v := ?_) rfl (by kernel_rfl) (by kernel_rfl) (by kernel_rfl) (fun _ _ _ h => h) (Or.inl ⟨by rfl, ?_⟩) (by assumption) ?_
  rotate_left 1
  · (intro wS hSw; (try dsimp only at hSw); go_simp; try with_reducible rfl)
  try simp only [List.getElem_toArray, List.getElem_cons_zero, List.getElem_cons_succ, Act.put, List.setIfInBounds_toArray, List.set_cons_zero, List.set_cons_succ]
  refine wpAnyH_take (i := 1) (v := ?_) rfl (by kernel_rfl) (by kernel_rfl) (by kernel_rfl) (fun _ _ _ h => h) (Or.inl ⟨by rfl, ?_⟩) (by assumption) ?_
  rotate_left 1
  · (intro wS hSw; (try dsimp only at hSw); go_simp; try with_reducible rfl)
  try simp only [List.getElem_toArray, List.getElem_cons_zero, List.getElem_cons_succ, Act.put, List.setIfInBounds_toArray, List.set_cons_zero, List.set_cons_succ]
  refine wpAnyH_take (i := 2) (v := ?_) rfl (by kernel_rfl) (by kernel_rfl) (by kernel_rfl) (fun _ _ _ h => h) (Or.inl ⟨by rfl, ?_⟩) (by assumption) ?_
  rotate_left 1
  · (intro wS hSw; (try dsimp only at hSw); go_simp; try with_reducible rfl)
  try simp only [List.getElem_toArray, List.getElem_cons_zero, List.getElem_cons_succ, Act.put, List.setIfInBounds_toArray, List.set_cons_zero, List.set_cons_succ]
  refine wpAnyH_take (i := 3) (v := ?_) rfl (by kernel_rfl) (by kernel_rfl) (by kernel_rfl) (fun _ _ _ h => h) (Or.inl ⟨by rfl, ?_⟩) (by assumption) ?_
  rotate_left 1
  · (intro wS hSw; (try dsimp only at hSw); go_simp; try with_reducible rfl)
  try simp only [List.getElem_toArray, List.getElem_cons_zero, List.getElem_cons_succ, Act.put, List.setIfInBounds_toArray, List.set_cons_zero, List.set_cons_succ]
  refine wpAnyH_take (i := 4) (v := ?_) rfl (by kernel_rfl) (by kernel_rfl) (by kernel_rfl) (fun _ _ _ h => h) (Or.inl ⟨by rfl, ?_⟩) (by assumption) ?_
  rotate_left 1
  · (intro wS hSw; (try dsimp only at hSw); go_simp; try with_reducible rfl)
  try simp only [List.getElem_toArray, List.getElem_cons_zero, List.getElem_cons_succ, Act.put, List.setIfInBounds_toArray, List.set_cons_zero, List.set_cons_succ]
  refine wpAnyH_take (i := 5) (v := ?_) rfl (by kernel_rfl) (by kernel_rfl) (by kernel_rfl) (fun _ _ _ h => h) (Or.inl ⟨by rfl, ?_⟩) (by assumption) ?_
  rotate_left 1
  · (intro wS hSw; (try dsimp only at hSw); go_simp; try with_reducible rfl)
  try simp only [List.getElem_toArray, List.getElem_cons_zero, List.getElem_cons_succ, Act.put, List.setIfInBounds_toArray, List.set_cons_zero, List.set_cons_succ]
  refine wpAnyH_take (i := 6) (v := ?_) rfl (by kernel_rfl) (by kernel_rfl) (by kernel_rfl) (fun _ _ _ h => h) (Or.inl ⟨by rfl, ?_⟩) (by assumption) ?_
  rotate_left 1
  · (intro wS hSw; (try dsimp only at hSw); go_simp; try with_reducible rfl)
  try simp only [List.getElem_toArray, List.getElem_cons_zero, List.getElem_cons_succ, Act.put, List.setIfInBounds_toArray, List.set_cons_zero, List.set_cons_succ]
  refine wpAnyH_take (i := 7) (v := ?_) rfl (by kernel_rfl) (by kernel_rfl) (by kernel_rfl) (fun _ _ _ h => h) (Or.inl ⟨by rfl, ?_⟩) (by assumption) ?_
  rotate_left 1
  · (intro wS hSw; (try dsimp only at hSw); go_simp; try with_reducible rfl)
  try simp only [List.getElem_toArray, List.getElem_cons_zero, List.getElem_cons_succ, Act.put, List.setIfInBounds_toArray, List.set_cons_zero, List.set_cons_succ]
  refine wpAnyH_take (i := 8) (v := ?_) rfl (by kernel_rfl) (by kernel_rfl) (by kernel_rfl) (fun _ _ _ h => h) (Or.inl ⟨by rfl, ?_⟩) (by assumption) ?_
  rotate_left 1
  · (intro wS hSw; (try dsimp only at hSw); go_simp; try with_reducible rfl)
  try simp only [List.getElem_toArray, List.getElem_cons_zero, List.getElem_cons_succ, Act.put, List.setIfInBounds_toArray, List.set_cons_zero, List.set_cons_succ]
  refine wpAnyH_take (i := 9) (v := ?_) rfl (by kernel_rfl) (by kernel_rfl) (by kernel_rfl) (fun _ _ _ h => h) (Or.inl ⟨by rfl, ?_⟩) (by assumption) ?_
  rotate_left 1
  · (intro wS hSw; (try dsimp only at hSw); go_simp; try with_reducible rfl)
  try simp only [List.getElem_toArray, List.getElem_cons_zero, List.getElem_cons_succ, Act.put, List.setIfInBounds_toArray, List.set_cons_zero, List.set_cons_succ]
  refine wpAnyH_take (i := 10) (v := ?_) rfl (by kernel_rfl) (by kernel_rfl) (by kernel_rfl) (fun _ _ _ h => h) (Or.inl ⟨by rfl, ?_⟩) (by assumption) ?_
  rotate_left 1
  · (intro wS hSw; (try dsimp only at hSw); go_simp; try with_reducible rfl)
  try simp only [List.getElem_toArray, List.getElem_cons_zero, List.getElem_cons_succ, Act.put, List.setIfInBounds_toArray, List.set_cons_zero, List.set_cons_succ]
  refine wpAnyH_take (i := 11) (v := ?_) rfl (by kernel_rfl) (by kernel_rfl) (by kernel_rfl) (fun _ _ _ h => h) (Or.inl ⟨by rfl, ?_⟩) (by assumption) ?_
  rotate_left 1
  · (intro wS hSw; (try dsimp only at hSw); go_simp; try with_reducible rfl)
  try simp only [List.getElem_toArray, List.getElem_cons_zero, List.getElem_cons_succ, Act.put, List.setIfInBounds_toArray, List.set_cons_zero, List.set_cons_succ]
  refine wpAnyH_take (i := 12) (v := ?_) rfl (by kernel_rfl) (by kernel_rfl) (by kernel_rfl) (fun _ _ _ h => h) (Or.inl ⟨by rfl, ?_⟩) (by assumption) ?_
  rotate_left 1
  · (intro wS hSw; (try dsimp only at hSw); go_simp; try with_reducible rfl)
  try simp only [List.getElem_toArray, List.getElem_cons_zero, List.getElem_cons_succ, Act.put, List.setIfInBounds_toArray, List.set_cons_zero, List.set_cons_succ]
  refine wpAnyH_take (i := 13) (v := ?_) rfl (by kernel_rfl) (by kernel_rfl) (by kernel_rfl) (fun _ _ _ h => h) (Or.inl ⟨by rfl, ?_⟩) (by assumption) ?_
  rotate_left 1
  · (intro wS hSw; (try dsimp only at hSw); go_simp; try with_reducible rfl)
  try simp only [List.getElem_toArray, List.getElem_cons_zero, List.getElem_cons_succ, Act.put, List.setIfInBounds_toArray, List.set_cons_zero, List.set_cons_succ]
  refine wpAnyH_take (i := 14) (v := ?_) rfl (by kernel_rfl) (by kernel_rfl) (by kernel_rfl) (fun _ _ _ h => h) (Or.inl ⟨by rfl, ?_⟩) (by assumption) ?_
  rotate_left 1
  · (intro wS hSw; (try dsimp only at hSw); go_simp; try with_reducible rfl)
  try simp only [List.getElem_toArray, List.getElem_cons_zero, List.getElem_cons_succ, Act.put, List.setIfInBounds_toArray, List.set_cons_zero, List.set_cons_succ]
  refine wpAnyH_take (i := 15) (v := ?_) rfl (by kernel_rfl) (by kernel_rfl) (by kernel_rfl) (fun _ _ _ h => h) (Or.inl ⟨by rfl, ?_⟩) (by assumption) ?_
  rotate_left 1
  · (intro wS hSw; (try dsimp only at hSw); go_simp; try with_reducible rfl)
  try simp only [List.getElem_toArray, List.getElem_cons_zero, List.getElem_cons_succ, Act.put, List.setIfInBounds_toArray, List.set_cons_zero, List.set_cons_succ]
  refine wpAnyH_take (i := 16) (v := ?_) rfl (by kernel_rfl) (by kernel_rfl) (by kernel_rfl) (fun _ _ _ h => h) (Or.inl ⟨by rfl, ?_⟩) (by assumption) ?_
  rotate_left 1
  · (intro wS hSw; (try dsimp only at hSw); go_simp; try with_reducible rfl)
  try simp only [List.getElem_toArray, List.getElem_cons_zero, List.getElem_cons_succ, Act.put, List.setIfInBounds_toArray, List.set_cons_zero, List.set_cons_succ]
  refine wpAnyH_take (i := 17) (v := ?_) rfl (by kernel_rfl) (by kernel_rfl) (by kernel_rfl) (fun _ _ _ h => h) (Or.inl ⟨by rfl, ?_⟩) (by assumption) ?_
  rotate_left 1
  · (intro wS hSw; (try dsimp only at hSw); go_simp; try with_reducible rfl)
  try simp only [List.getElem_toArray, List.getElem_cons_zero, List.getElem_cons_succ, Act.put, List.setIfInBounds_toArray, List.set_cons_zero, List.set_cons_succ]
  refine wpAnyH_take (i := 18) (v := ?_) rfl (by kernel_rfl) (by kernel_rfl) (by kernel_rfl) (fun _ _ _ h => h) (Or.inl ⟨by rfl, ?_⟩) (by assumption) ?_
  rotate_left 1
  · (intro wS hSw; (try dsimp only at hSw); go_simp; try with_reducible rfl)
  try simp only [List.getElem_toArray, List.getElem_cons_zero, List.getElem_cons_succ, Act.put, List.setIfInBounds_toArray, List.set_cons_zero, List.set_cons_succ]
  refine wpAnyH_take (i := 19) (v := ?_) rfl (by kernel_rfl) (by kernel_rfl) (by kernel_rfl) (fun _ _ _ h => h) (Or.inl ⟨by rfl, ?_⟩) (by assumption) ?_
  rotate_left 1
  · (intro wS hSw; (try dsimp only at hSw); go_simp; try with_reducible rfl)
  try simp only [List.getElem_toArray, List.getElem_cons_zero, List.getElem_cons_succ, Act.put, List.setIfInBounds_toArray, List.set_cons_zero, List.set_cons_succ]
  refine wpAnyH_take (i := 20) (v := ?_) rfl (by kernel_rfl) (by kernel_rfl) (by kernel_rfl) (fun _ _ _ h => h) (Or.inl ⟨by rfl, ?_⟩) (by assumption) ?_
  rotate_left 1
  · (intro wS hSw; (try dsimp only at hSw); go_simp; try with_reducible rfl)
  try simp only [List.getElem_toArray, List.getElem_cons_zero, List.getElem_cons_succ, Act.put, List.setIfInBounds_toArray, List.set_cons_zero, List.set_cons_succ]
  refine wpAnyH_take (i := 21) (v := ?_) rfl (by kernel_rfl) (by kernel_rfl) (by kernel_rfl) (fun _ _ _ h => h) (Or.inl ⟨by rfl, ?_⟩) (by assumption) ?_
  rotate_left 1
  · (intro wS hSw; (try dsimp only at hSw); go_simp; try with_reducible rfl)
  try simp only [List.getElem_toArray, List.getElem_cons_zero, List.getElem_cons_succ, Act.put, List.setIfInBounds_toArray, List.set_cons_zero, List.set_cons_succ]
  refine wpAnyH_take (i := 22) (v := ?_) rfl (by kernel_rfl) (by kernel_rfl) (by kernel_rfl) (fun _ _ _ h => h) (Or.inl ⟨by rfl, ?_⟩) (by assumption) ?_
  rotate_left 1
  · (intro wS hSw; (try dsimp only at hSw); go_simp; try with_reducible rfl)
  try simp only [List.getElem_toArray, List.getElem_cons_zero, List.getElem_cons_succ, Act.put, List.setIfInBounds_toArray, List.set_cons_zero, List.set_cons_succ]
  refine wpAnyH_take (i := 23) (v := ?_) rfl (by kernel_rfl) (by kernel_rfl) (by kernel_rfl) (fun _ _ _ h => h) (Or.inl ⟨by rfl, ?_⟩) (by assumption) ?_
  rotate_left 1
  · (intro wS hSw; (try dsimp only at hSw); go_simp; try with_reducible rfl)
  try simp only [List.getElem_toArray, List.getElem_cons_zero, List.getElem_cons_succ, Act.put, List.setIfInBounds_toArray, List.set_cons_zero, List.set_cons_succ]
  refine wpAnyH_take (i := 24) (v := ?_) rfl (by kernel_rfl) (by kernel_rfl) (by kernel_rfl) (fun _ _ _ h => h) (Or.inl ⟨by rfl, ?_⟩) (by assumption) ?_
  rotate_left 1
  · (intro wS hSw; (try dsimp only at hSw); go_simp; try with_reducible rfl)
  try simp only [List.getElem_toArray, List.getElem_cons_zero, List.getElem_cons_succ, Act.put, List.setIfInBounds_toArray, List.set_cons_zero, List.set_cons_succ]
  refine wpAnyH_take (i := 25) (v := ?_) rfl (by kernel_rfl) (by kernel_rfl) (by kernel_rfl) (fun _ _ _ h => h) (Or.inl ⟨by rfl, ?_⟩) (by assumption) ?_
  rotate_left 1
  · (intro wS hSw; (try dsimp only at hSw); go_simp; try with_reducible rfl)
  try simp only [List.getElem_toArray, List.getElem_cons_zero, List.getElem_cons_succ, Act.put, List.setIfInBounds_toArray, List.set_cons_zero, List.set_cons_succ]
  refine wpAnyH_take (i := 26) (v := ?_) rfl (by kernel_rfl) (by kernel_rfl) (by kernel_rfl) (fun _ _ _ h => h) (Or.inl ⟨by rfl, ?_⟩) (by assumption) ?_
  rotate_left 1
  · (intro wS hSw; (try dsimp only at hSw); go_simp; try with_reducible rfl)
  try simp only [List.getElem_toArray, List.getElem_cons_zero, List.getElem_cons_succ, Act.put, List.setIfInBounds_toArray, List.set_cons_zero, List.set_cons_succ]
  refine wpAnyH_take (i := 27) (v := ?_) rfl (by kernel_rfl) (by kernel_rfl) (by kernel_rfl) (fun _ _ _ h => h) (Or.inl ⟨by rfl, ?_⟩) (by assumption) ?_
  rotate_left 1
  · (intro wS hSw; (try dsimp only at hSw); go_simp; try with_reducible rfl)
  try simp only [List.getElem_toArray, List.getElem_cons_zero, List.getElem_cons_succ, Act.put, List.setIfInBounds_toArray, List.set_cons_zero, List.set_cons_succ]
  refine wpAnyH_take (i := 28) (v := ?_) rfl (by kernel_rfl) (by kernel_rfl) (by kernel_rfl) (fun _ _ _ h => h) (Or.inl ⟨by rfl, ?_⟩) (by assumption) ?_
  rotate_left 1
  · (intro wS hSw; (try dsimp only at hSw); go_simp; try with_reducible rfl)
  try simp only [List.getElem_toArray, List.getElem_cons_zero, List.getElem_cons_succ, Act.put, List.setIfInBounds_toArray, List.set_cons_zero, List.set_cons_succ]
  refine wpAnyH_take (i := 29) (v := ?_) rfl (by kernel_rfl) (by kernel_rfl) (by kernel_rfl) (fun _ _ _ h => h) (Or.inl ⟨by rfl, ?_⟩) (by assumption) ?_
  rotate_left 1
  · (intro wS hSw; (try dsimp only at hSw); go_simp; try with_reducible rfl)
  try simp only [List.getElem_toArray, List.getElem_cons_zero, List.getElem_cons_succ, Act.put, List.setIfInBounds_toArray, List.set_cons_zero, List.set_cons_succ]
  refine wpAnyH_take (i := 30) (v := ?_) rfl (by kernel_rfl) (by kernel_rfl) (by kernel_rfl) (fun _ _ _ h => h) (Or.inl ⟨by rfl, ?_⟩) (by assumption) ?_
  rotate_left 1
  · (intro wS hSw; (try dsimp only at hSw); go_simp; try with_reducible rfl)
  try simp only [List.getElem_toArray, List.getElem_cons_zero, List.getElem_cons_succ, Act.put, List.setIfInBounds_toArray, List.set_cons_zero, List.set_cons_succ]
  refine wpAnyH_take (i := 31) (v := ?_) rfl (by kernel_rfl) (by kernel_rfl) (by kernel_rfl) (fun _ _ _ h => h) (Or.inl ⟨by rfl, ?_⟩) (by assumption) ?_
  rotate_left 1
  · (intro wS hSw; (try dsimp only at hSw); go_simp; try with_reducible rfl)
  try simp only [List.getElem_toArray, List.getElem_cons_zero, List.getElem_cons_succ, Act.put, List.setIfInBounds_toArray, List.set_cons_zero, List.set_cons_succ]
  refine wpAnyH_take (i := 32) (v := ?_) rfl (by kernel_rfl) (by kernel_rfl) (by kernel_rfl) (fun _ _ _ h => h) (Or.inl ⟨by rfl, ?_⟩) (by assumption) ?_
  rotate_left 1
  · (intro wS hSw; (try dsimp only at hSw); go_simp; try with_reducible rfl)
  try simp only [List.getElem_toArray, List.getElem_cons_zero, List.getElem_cons_succ, Act.put, List.setIfInBounds_toArray, List.set_cons_zero, List.set_cons_succ]
  refine wpAnyH_take (i := 33) (v := ?_) rfl (by kernel_rfl) (by kernel_rfl) (by kernel_rfl) (fun _ _ _ h => h) (Or.inl ⟨by rfl, ?_⟩) (by assumption) ?_
  rotate_left 1
  · (intro wS hSw; (try dsimp only at hSw); go_simp; try with_reducible rfl)
  try simp only [List.getElem_toArray, List.getElem_cons_zero, List.getElem_cons_succ, Act.put, List.setIfInBounds_toArray, List.set_cons_zero, List.set_cons_succ]
  refine wpAnyH_take (i := 34) (v := ?_) rfl (by kernel_rfl) (by kernel_rfl) (by kernel_rfl) (fun _ _ _ h => h) (Or.inl ⟨by rfl, ?_⟩) (by assumption) ?_
  rotate_left 1
  · (intro wS hSw; (try dsimp only at hSw); go_simp; try with_reducible rfl)
  try simp only [List.getElem_toArray, List.getElem_cons_zero, List.getElem_cons_succ, Act.put, List.setIfInBounds_toArray, List.set_cons_zero, List.set_cons_succ]
  refine wpAnyH_take (i := 35) (v := ?_) rfl (by kernel_rfl) (by kernel_rfl) (by kernel_rfl) (fun _ _ _ h => h) (Or.inl ⟨by rfl, ?_⟩) (by assumption) ?_
  rotate_left 1
  · (intro wS hSw; (try dsimp only at hSw); go_simp; try with_reducible rfl)
  try simp only [List.getElem_toArray, List.getElem_cons_zero, List.getElem_cons_succ, Act.put, List.setIfInBounds_toArray, List.set_cons_zero, List.set_cons_succ]
  refine wpAnyH_take (i := 36) (v := ?_) rfl (by kernel_rfl) (by kernel_rfl) (by kernel_rfl) (fun _ _ _ h => h) (Or.inl ⟨by rfl, ?_⟩) (by assumption) ?_
  rotate_left 1
  · (intro wS hSw; (try dsimp only at hSw); go_simp; try with_reducible rfl)
  try simp only [List.getElem_toArray, List.getElem_cons_zero, List.getElem_cons_succ, Act.put, List.setIfInBounds_toArray, List.set_cons_zero, List.set_cons_succ]
  refine wpAnyH_take (i := 37) (v := ?_) rfl (by kernel_rfl) (by kernel_rfl) (by kernel_rfl) (fun _ _ _ h => h) (Or.inl ⟨by rfl, ?_⟩) (by assumption) ?_
  rotate_left 1
  · (intro wS hSw; (try dsimp only at hSw); go_simp; try with_reducible rfl)
  try simp only [List.getElem_toArray, List.getElem_cons_zero, List.getElem_cons_succ, Act.put, List.setIfInBounds_toArray, List.set_cons_zero, List.set_cons_succ]
  refine wpAnyH_take (i := 38) (v := ?_) rfl (by kernel_rfl) (by kernel_rfl) (by kernel_rfl) (fun _ _ _ h => h) (Or.inl ⟨by rfl, ?_⟩) (by assumption) ?_
  rotate_left 1
  · (intro wS hSw; (try dsimp only at hSw); go_simp; try with_reducible rfl)
  try simp only [List.getElem_toArray, List.getElem_cons_zero, List.getElem_cons_succ, Act.put, List.setIfInBounds_toArray, List.set_cons_zero, List.set_cons_succ]
  refine wpAnyH_take (i := 39) (v := ?_) rfl (by kernel_rfl) (by kernel_rfl) (by kernel_rfl) (fun _ _ _ h => h) (Or.inl ⟨by rfl, ?_⟩) (by assumption) ?_
  rotate_left 1
  · (intro wS hSw; (try dsimp only at hSw); go_simp; try with_reducible rfl)
  try simp only [List.getElem_toArray, List.getElem_cons_zero, List.getElem_cons_succ, Act.put, List.setIfInBounds_toArray, List.set_cons_zero, List.set_cons_succ]
  refine wpAnyH_take (i := 40) (v := ?_) rfl (by kernel_rfl) (by kernel_rfl) (by kernel_rfl) (fun _ _ _ h => h) (Or.inl ⟨by rfl, ?_⟩) (by assumption) ?_
  rotate_left 1
  · (intro wS hSw; (try dsimp only at hSw); go_simp; try with_reducible rfl)
  try simp only [List.getElem_toArray, List.getElem_cons_zero, List.getElem_cons_succ, Act.put, List.setIfInBounds_toArray, List.set_cons_zero, List.set_cons_succ]
  refine wpAnyH_take (i := 41) (v := ?_) rfl (by kernel_rfl) (by kernel_rfl) (by kernel_rfl) (fun _ _ _ h => h) (Or.inl ⟨by rfl, ?_⟩) (by assumption) ?_
  rotate_left 1
  · (intro wS hSw; (try dsimp only at hSw); go_simp; try with_reducible rfl)
  try simp only [List.getElem_toArray, List.getElem_cons_zero, List.getElem_cons_succ, Act.put, List.setIfInBounds_toArray, List.set_cons_zero, List.set_cons_succ]
  refine wpAnyH_ready (rs := [42]) (by kernel_rfl) (by simp) ?_
  refine AllReadyH.cons rfl (fun K hK => ?_) AllReadyH.nil
  go_simp
  refine (bchk_yes Any1 Any1 _ _ _ _ _ awK [[(0, 2)]] _ (HSA2.out.below bD) (HKA2.out.below bD) awK_check (by decide) awK_keys).mono ?_; rintro e w3 ⟨rfl, hb⟩; have b3 := bD.trans hb; clear hb
  refine hK.out _ _ (⟨(b3.cell (p := ⟨A1, 0, none⟩) m1).trans t0, (b3.cell (p := ⟨A1, 1, none⟩) m1).trans t1, (b3.cell (p := ⟨A1, 2, none⟩) m1).trans t2, (b3.cell (p := ⟨A1, 3, none⟩) m1).trans t3, (b3.cell (p := ⟨A7, 0, none⟩) m7).trans q0, (b3.cell (p := ⟨A7, 1, none⟩) m7).trans q1, (b3.cell (p := ⟨A7, 2, none⟩) m7).trans q2, (b3.cell (p := ⟨bb, ob, none⟩) mb).trans b0, (b3.cell (p := ⟨bb, ob + 1, none⟩) mb).trans b1, (b3.cell (p := ⟨ib, io + 1, none⟩) mi).trans i1', (b3.cell (p := ⟨A3, 0, none⟩) m3).trans k0, (b3.cell (p := ⟨A2, 0, none⟩) m2).trans c0, (b3.cell (p := ⟨A2, 1, none⟩) m2).trans c1⟩) (fun hHeld => ?_)
  clear hK K
  try simp only [List.getElem_toArray, List.getElem_cons_zero, List.getElem_cons_succ, Act.put, List.setIfInBounds_toArray, List.set_cons_zero, List.set_cons_succ]
  refine wpAnyH_take (i := 43) (v := ?_) rfl (by kernel_rfl) (by kernel_rfl) (by kernel_rfl) (fun _ _ _ h => h) (Or.inl ⟨by rfl, ?_⟩) (by assumption) ?_
  rotate_left 1
  · (intro wS hSw; (try dsimp only at hSw); go_simp; try with_reducible rfl)
  try simp only [List.getElem_toArray, List.getElem_cons_zero, List.getElem_cons_succ, Act.put, List.setIfInBounds_toArray, List.set_cons_zero, List.set_cons_succ]
  refine wpAnyH_take (i := 44) (v := ?_) rfl (by kernel_rfl) (by kernel_rfl) (by kernel_rfl) (fun _ _ _ h => h) (Or.inl ⟨by rfl, ?_⟩) (by assumption) ?_
  rotate_left 1
  · (intro wS hSw; (try dsimp only at hSw); go_simp; try with_reducible rfl)
  try simp only [List.getElem_toArray, List.getElem_cons_zero, List.getElem_cons_succ, Act.put, List.setIfInBounds_toArray, List.set_cons_zero, List.set_cons_succ]
  refine wpAnyH_take (i := 45) (v := ?_) rfl (by kernel_rfl) (by kernel_rfl) (by kernel_rfl) (fun _ _ _ h => h) (Or.inl ⟨by rfl, ?_⟩) (by assumption) ?_
  rotate_left 1
  · (intro wS hSw; (try dsimp only at hSw); go_simp; try with_reducible rfl)
  try simp only [List.getElem_toArray, List.getElem_cons_zero, List.getElem_cons_succ, Act.put, List.setIfInBounds_toArray, List.set_cons_zero, List.set_cons_succ]
  refine wpAnyH_take (i := 46) (v := ?_) rfl (by kernel_rfl) (by kernel_rfl) (by kernel_rfl) (fun _ _ _ h => h) (Or.inl ⟨by rfl, ?_⟩) (by assumption) ?_
  rotate_left 1
  · (intro wS hSw; (try dsimp only at hSw); go_simp; try with_reducible rfl)
  try simp only [List.getElem_toArray, List.getElem_cons_zero, List.getElem_cons_succ, Act.put, List.setIfInBounds_toArray, List.set_cons_zero, List.set_cons_succ]
  refine wpAnyH_take (i := 47) (v := ?_) rfl (by kernel_rfl) (by kernel_rfl) (by kernel_rfl) (fun _ _ _ h => h) (Or.inl ⟨by rfl, ?_⟩) (by assumption) ?_
  rotate_left 1
  · (intro wS hSw; (try dsimp only at hSw); go_simp; try with_reducible rfl)
  try simp only [List.getElem_toArray, List.getElem_cons_zero, List.getElem_cons_succ, Act.put, List.setIfInBounds_toArray, List.set_cons_zero, List.set_cons_succ]
  refine wpAnyH_take (i := 48) (v := ?_) rfl (by kernel_rfl) (by kernel_rfl) (by kernel_rfl) (fun _ _ _ h => h) (Or.inl ⟨by rfl, ?_⟩) (by assumption) ?_
  rotate_left 1
  · (intro wS hSw; (try dsimp only at hSw); go_simp; try with_reducible rfl)
  try simp only [List.getElem_toArray, List.getElem_cons_zero, List.getElem_cons_succ, Act.put, List.setIfInBounds_toArray, List.set_cons_zero, List.set_cons_succ]
  refine wpAnyH_take (i := 49) (v := ?_) rfl (by kernel_rfl) (by kernel_rfl) (by kernel_rfl) (fun _ _ _ h => h) (Or.inl ⟨by rfl, ?_⟩) (by assumption) ?_
  rotate_left 1
  · (intro wS hSw; (try dsimp only at hSw); go_simp; try with_reducible rfl)
  try simp only [List.getElem_toArray, List.getElem_cons_zero, List.getElem_cons_succ, Act.put, List.setIfInBounds_toArray, List.set_cons_zero, List.set_cons_succ]
  refine wpAnyH_take (i := 50) (v := ?_) rfl (by kernel_rfl) (by kernel_rfl) (by kernel_rfl) (fun _ _ _ h => h) (Or.inl ⟨by rfl, ?_⟩) (by assumption) ?_
  rotate_left 1
  · (intro wS hSw; (try dsimp only at hSw); go_simp; try with_reducible rfl)
  try simp only [List.getElem_toArray, List.getElem_cons_zero, List.getElem_cons_succ, Act.put, List.setIfInBounds_toArray, List.set_cons_zero, List.set_cons_succ]
  refine wpAnyH_take (i := 51) (v := ?_) rfl (by kernel_rfl) (by kernel_rfl) (by kernel_rfl) (fun _ _ _ h => h) (Or.inl ⟨by rfl, ?_⟩) (by assumption) ?_
  rotate_left 1
  · (intro wS hSw; (try dsimp only at hSw); go_simp; try with_reducible rfl)
  try simp only [List.getElem_toArray, List.getElem_cons_zero, List.getElem_cons_succ, Act.put, List.setIfInBounds_toArray, List.set_cons_zero, List.set_cons_succ]
  refine wpAnyH_take (i := 52) (v := ?_) rfl (by kernel_rfl) (by kernel_rfl) (by kernel_rfl) (fun _ _ _ h => h) (Or.inl ⟨by rfl, ?_⟩) (by assumption) ?_
  rotate_left 1
  · (intro wS hSw; (try dsimp only at hSw); go_simp; try with_reducible rfl)
  try simp only [List.getElem_toArray, List.getElem_cons_zero, List.getElem_cons_succ, Act.put, List.setIfInBounds_toArray, List.set_cons_zero, List.set_cons_succ]
  refine wpAnyH_take (i := 53) (v := ?_) rfl (by kernel_rfl) (by kernel_rfl) (by kernel_rfl) (fun _ _ _ h => h) (Or.inl ⟨by rfl, ?_⟩) (by assumption) ?_
  rotate_left 1
  · (intro wS hSw; (try dsimp only at hSw); go_simp; try with_reducible rfl)
  try simp only [List.getElem_toArray, List.getElem_cons_zero, List.getElem_cons_succ, Act.put, List.setIfInBounds_toArray, List.set_cons_zero, List.set_cons_succ]
  refine wpAnyH_take (i := 54) (v := ?_) rfl (by kernel_rfl) (by kernel_rfl) (by kernel_rfl) (fun _ _ _ h => h) (Or.inl ⟨by rfl, ?_⟩) (by assumption) ?_
  rotate_left 1
  · (intro wS hSw; (try dsimp only at hSw); go_simp; try with_reducible rfl)
  try simp only [List.getElem_toArray, List.getElem_cons_zero, List.getElem_cons_succ, Act.put, List.setIfInBounds_toArray, List.set_cons_zero, List.set_cons_succ]
  refine wpAnyH_take (i := 55) (v := ?_) rfl (by kernel_rfl) (by kernel_rfl) (by kernel_rfl) (fun _ _ _ h => h) (Or.inl ⟨by rfl, ?_⟩) (by assumption) ?_
  rotate_left 1
  · (intro wS hSw; (try dsimp only at hSw); go_simp; try with_reducible rfl)
  try simp only [List.getElem_toArray, List.getElem_cons_zero, List.getElem_cons_succ, Act.put, List.setIfInBounds_toArray, List.set_cons_zero, List.set_cons_succ]
  refine wpAnyH_ready (rs := [56]) (by kernel_rfl) (by simp) ?_
  refine AllReadyH.cons rfl (fun K hK => ?_) AllReadyH.nil
  go_simp
  refine (bpart_yes Any1 _ _ _ _ awK (0, 2) ⟨1, 1, [awRobert]⟩ _ _ (HSA2.out.below b3) (HV2.out.below b3) (by kernel_rfl) (by decide) (by decide) (by decide) (by decide) (by kernel_rfl) (by decide) (by decide) (fun _ => awR_ascii)).mono ?_; rw [HP.out]; rintro e w4 ⟨rfl, hb⟩; have b4 := b3.trans (hb.mono b3.size); clear hb
  refine hK.out _ _ (⟨(b4.cell (p := ⟨A1, 0, none⟩) m1).trans t0, (b4.cell (p := ⟨A1, 1, none⟩) m1).trans t1, (b4.cell (p := ⟨A1, 2, none⟩) m1).trans t2, (b4.cell (p := ⟨A1, 3, none⟩) m1).trans t3, (b4.cell (p := ⟨A7, 0, none⟩) m7).trans q0, (b4.cell (p := ⟨A7, 1, none⟩) m7).trans q1, (b4.cell (p := ⟨A7, 2, none⟩) m7).trans q2, (b4.cell (p := ⟨bb, ob, none⟩) mb).trans b0, (b4.cell (p := ⟨bb, ob + 1, none⟩) mb).trans b1, (b4.cell (p := ⟨ib, io + 1, none⟩) mi).trans i1', (b4.cell (p := ⟨A3, 0, none⟩) m3).trans k0, (b4.cell (p := ⟨A2, 0, none⟩) m2).trans c0, (b4.cell (p := ⟨A2, 1, none⟩) m2).trans c1⟩) (fun hHeld => ?_)
  clear hK K
  try simp only [List.getElem_toArray, List.getElem_cons_zero, List.getElem_cons_succ, Act.put, List.setIfInBounds_toArray, List.set_cons_zero, List.set_cons_succ]
  refine wpAnyH_take (i := 57) (v := ?_) rfl (by kernel_rfl) (by kernel_rfl) (by kernel_rfl) (fun _ _ _ h => h) (Or.inl ⟨by rfl, ?_⟩) (by assumption) ?_
  rotate_left 1
  · (intro wS hSw; (try dsimp only at hSw); go_simp; try with_reducible rfl)
  try simp only [List.getElem_toArray, List.getElem_cons_zero, List.getElem_cons_succ, Act.put, List.setIfInBounds_toArray, List.set_cons_zero, List.set_cons_succ]
  refine wpAnyH_take (i := 58) (v := ?_) rfl (by kernel_rfl) (by kernel_rfl) (by kernel_rfl) (fun _ _ _ h => h) (Or.inl ⟨by rfl, ?_⟩) (by assumption) ?_
  rotate_left 1
  · (intro wS hSw; (try dsimp only at hSw); go_simp; try with_reducible rfl)
  try simp only [List.getElem_toArray, List.getElem_cons_zero, List.getElem_cons_succ, Act.put, List.setIfInBounds_toArray, List.set_cons_zero, List.set_cons_succ]
  refine wpAnyH_take (i := 59) (v := ?_) rfl (by kernel_rfl) (by kernel_rfl) (by kernel_rfl) (fun _ _ _ h => h) (Or.inl ⟨by rfl, ?_⟩) (by assumption) ?_
  rotate_left 1
  · (intro wS hSw; (try dsimp only at hSw); go_simp; try with_reducible rfl)
  try simp only [List.getElem_toArray, List.getElem_cons_zero, List.getElem_cons_succ, Act.put, List.setIfInBounds_toArray, List.set_cons_zero, List.set_cons_succ]
  refine wpAnyH_done (by kernel_rfl) ?_ _
  refine NoPanic.normal ?_
  go_wp2_with fail
  go_ret
  exact ⟨rfl, HB2.out.trans (b4.mono HB2.out.size)⟩
end Go.Proofs.YthdolmofeeniaaaGreatDoor
end
section
/- recordlinkmake: Key, Parameters: some key; some parameters that are valid. -/
set_option linter.unusedSimpArgs false
set_option linter.unusedVariables false
set_option maxRecDepth 100000
namespace Go.Proofs.YthdolmofeeniaaaGreatDoor
open Go.RowKit
def KeyPost (D : Nat) (w : World) (e : Ending) (w' : World) : Prop := ∃ k : Int × Int, e = .returned (.agg #[.int .u64 k.1, .int .u64 k.2]) ∧ Moved D w w'
set_option maxHeartbeats 1000000 in
theorem key_deal (D : Nat) (w : World) (h : DeckAt w D) :
    Calls Tryz.prog 14 #[.pointer (some ⟨D, 0, none⟩)] w (KeyPost D w) := by
  have zD := h.lt
  have M0 := Lib.hid (Moved.start h); clear h
  go_enter Tryz.func14, Tryz.ntmps14
  go_wp2_with fail
  refine (word_any D _ (M0.out.alloc _).deck).mono ?_
  rintro e w1 ⟨a, rfl, a0, a1, mv⟩
  have M1 := Lib.hid ((M0.out.alloc _).trans mv)
  have HZ1 := Lib.hid (mv.blk (k := w.heap.size) (by omega) (blk_new rfl))
  clear mv
  go_wp2_with fail
  refine (word_any D _ M1.out.deck).mono ?_
  rintro e w2 ⟨b, rfl, b0, b1, mv⟩
  have M2 := Lib.hid (M1.out.trans mv)
  have hz2 := mv.blk (k := w.heap.size) (by omega) HZ1.out
  have HZ2 := Lib.hid hz2
  obtain ⟨z0, z1⟩ := cells2K hz2
  have f0 := frozen_of_row _ _ 0 _ _ hz2; have f1 := frozen_of_row _ _ 1 _ _ hz2
  have y1 := lt_of_blk hz2
  clear mv hz2 HZ1 M1
  go_wp2_with fail
  exact bodyPost_row1 rfl rfl (blk_set (i := 1) (v := .int .u64 b) (blk_set (i := 0) (v := .int .u64 a) HZ2.out)) Tryz.underlying39 rfl (by kernel_rfl)
    ⟨(a, b), rfl, (M2.out.set (a := ⟨w.heap.size, 0, none⟩) (Nat.le_refl _) _).set (a := ⟨w.heap.size, 1, none⟩) (Nat.le_refl _) _⟩
/-- parameters that are dealt for n fields, the first j of them -/
structure ParsD (n j : Nat) (P : List ParL) : Prop where
  len : P.length = j
  par : ∀ i, i < j → ParOk (P.getD i default) ∧ (P.getD i default).salt < n ∧ (P.getD i default).salt ≠ i
theorem ParsD.nil (n : Nat) : ParsD n 0 [] := ⟨rfl, fun i hi => by omega⟩
theorem ParsD.snoc {n j : Nat} {P : List ParL} {p : ParL} (h : ParsD n j P) (hp : ParOk p) (h1 : p.salt < n) (h2 : p.salt ≠ j) : ParsD n (j + 1) (P ++ [p]) := by
  refine ⟨by simp [h.len], fun i hi => ?_⟩
  by_cases hij : i < j
  · have e : (P ++ [p]).getD i default = P.getD i default := by rw [List.getD, List.getD, List.getElem?_append_left (by rw [h.len]; exact hij)]
    rw [e]; exact h.par i hij
  · have hij' : i = j := by omega
    subst hij'
    have e : (P ++ [p]).getD i default = p := by rw [List.getD, List.getElem?_append_right (by rw [h.len]; exact Nat.le_refl _), h.len, Nat.sub_self]; rfl
    rw [e]; exact ⟨hp, h1, h2⟩
theorem ParsD.ok {n : Nat} {P : List ParL} (h : ParsD n n P) : ParsOk P := ⟨fun i hi => (h.par i (by rw [← h.len]; exact hi)).1, fun i hi => by have := (h.par i (by rw [← h.len]; exact hi)).2; rw [h.len]; exact this⟩
end Go.Proofs.YthdolmofeeniaaaGreatDoor
end
section
/- The reference of layer 1 (text): Letters, Join, Same, Tokens, Valid compute what the plain functions say. -/
set_option linter.unusedSimpArgs false
set_option linter.unusedVariables false
set_option maxRecDepth 100000
namespace Go.Proofs.YthdolmofeeniaaaGreatDoor
open Go.RowKit
attribute [local go_sem] toList_mk mk_size bytes_append
theorem ext_one (s : ByteArray) (k : Nat) (h : k < s.size) : s.extract k (k + 1) = ⟨[s[k]].toArray⟩ := by
  have hl : s.data.toList.length = s.size := by simp
  have := ext_mk s.data.toList k (k + 1) (by omega)
  unfold mkS at this
  have e : (⟨s.data.toList.toArray⟩ : ByteArray) = s := by simp
  rw [e] at this
  rw [this]
  congr 2
  rw [take_snoc' s k h, List.drop_append_of_le_length (by rw [List.length_take]; omega), List.drop_eq_nil_of_le (by rw [List.length_take]; omega), List.nil_append]
set_option maxHeartbeats 1000000 in
theorem rletters_any (s : ByteArray) (w : World) (hs : s.size ≤ 1000000) :
    Calls Tryz.prog 174 #[.string s] w fun e w' => e = .returned (strV (lettersL s.data.toList)) ∧ w = w' := by
  have hl : s.data.toList.length = s.size := by simp
  have HL := Lib.hid hl; clear hl
  go_enter Tryz.func174, Tryz.ntmps174
  go_wp2_with fail
  go_loop [3, 4] (fun o i => ∃ k : Nat, k ≤ s.size ∧ i = .int .i64 k ∧ o = strV (lettersL (s.data.toList.take k))) (fun _ i => s.size - (intOf i).toNat)
  case atStart => exact ⟨0, by omega, rfl, rfl⟩
  case round =>
    obtain ⟨k, hk, rfl, rfl⟩ := hrel
    by_cases hlt : k < s.size
    · have hq : decide ((k : Int) < s.size) = true := by simp; omega
      have ht := Lib.hid (take_snoc' s k hlt)
      have hb := s[k].toNat_lt
      have hlen : (lettersL (s.data.toList.take k)).length ≤ 1000000 := by have := letters_len (s.data.toList.take k); have := List.length_take_le k s.data.toList; omega
      have hext := ext_one s k hlt
      cases hlo : isLow s[k]
      · have HN := Lib.hid (letters_no (s.data.toList.take k) s[k] hlo)
        have hc := hlo
        rw [low_iff, decide_eq_false_iff_not] at hc
        have hc' : (97 ≤ (s[k].toNat : Int) ∧ 122 < (s[k].toNat : Int)) ∨ (s[k].toNat : Int) < 97 := by omega
        clear hc hlo hext
        rcases hc' with ⟨g1, g2⟩ | g1
        all_goals
          go_wp2_with fail
          go_round
          case rel => exact ⟨k + 1, by omega, by go_num, by rw [ht.out, HN.out]⟩
          case measure => simp [intOf]; omega
      · have HY := Lib.hid (letters_yes (s.data.toList.take k) s[k] hlo)
        have hc := hlo
        rw [low_iff, decide_eq_true_iff] at hc
        obtain ⟨g1, g2⟩ := hc
        clear hlo
        go_wp2_with fail
        go_round
        case rel => exact ⟨k + 1, by omega, by go_num, by rw [ht.out, HY.out]⟩
        case measure => simp [intOf]; omega
    · obtain rfl : k = s.size := by omega
      have hq : decide ((s.size : Int) < s.size) = false := by simp
      have HF := Lib.hid (List.take_of_length_le (by rw [HL.out]; exact Nat.le_refl _) : s.data.toList.take s.size = s.data.toList)
      go_wp2_with fail
      go_ret
      exact ⟨by show Ending.returned (strV (lettersL (s.data.toList.take s.size))) = _; rw [HF.out], rfl⟩
theorem join_snoc (T : List (List UInt8)) (x : List UInt8) : joinL (T ++ [x]) = if T = [] then x else joinL T ++ [32] ++ x := by
  induction T with
  | nil => rfl
  | cons t T ih =>
    rw [if_neg (by simp)]
    by_cases hT : T = []
    · subst hT; simp [joinL]
    · rw [if_neg hT] at ih
      rw [List.cons_append, join_cons_ne _ _ (by simp), ih, join_cons_ne _ _ hT]; simp
theorem join_take_len (L : List (List UInt8)) : ∀ k, (joinL (L.take k)).length ≤ (joinL L).length := by
  induction L with
  | nil => intro k; simp
  | cons a L ih =>
    intro k
    cases k with
    | zero => simp [joinL]
    | succ k =>
      rw [List.take_succ_cons]
      by_cases hk : L.take k = []
      · rw [hk]
        by_cases hL : L = []
        · subst hL; simp [joinL]
        · rw [join_cons_ne _ _ hL]; simp [joinL]
      · have hL : L ≠ [] := by intro e; subst e; simp at hk
        rw [join_cons_ne _ _ hk, join_cons_ne _ _ hL]
        have := ih k; simp; omega
set_option maxHeartbeats 1000000 in
theorem rjoin_any (S : Nat → Prop) (v : Value) (L : List (List UInt8)) (w : World) (h : Vec w S 1 encS v L) (hn : L.length ≤ 1000000) (hj : (joinL L).length ≤ 1000000000) :
    Calls Tryz.prog 218 #[v] w fun e w' => e = .returned (strV (joinL L)) ∧ w = w' := by
  obtain ⟨a, cap, rfl⟩ := h.slice
  have HV := Lib.hid h; clear h
  go_enter Tryz.func218, Tryz.ntmps218
  go_wp2_with fail
  go_loop [3, 4] (fun o i => ∃ k : Nat, k ≤ L.length ∧ i = .int .i64 k ∧ o = strV (joinL (L.take k))) (fun _ i => L.length - (intOf i).toNat)
  case atStart => exact ⟨0, by omega, rfl, rfl⟩
  case round =>
    obtain ⟨k, hk, rfl, rfl⟩ := hrel
    have hlen := join_take_len L k
    by_cases hlt : k < L.length
    · have hq : decide ((k : Int) < L.length) = true := by simp; omega
      obtain ⟨b, off, rfl, _, hb, hc⟩ := vec_cell1 HV.out (by omega)
      have c1 := hc k hlt
      have htk := take_snocA L k hlt
      rw [show (default : List UInt8) = [] from rfl] at htk
      have hxl := join_take_len L (k + 1)
      have hsn := join_snoc (L.take k) (L.getD k [])
      rw [← htk] at hsn
      obtain ⟨x, hx⟩ : ∃ x, L.getD k [] = x := ⟨_, rfl⟩
      rw [hx] at c1 htk hsn
      have hx1 : x.length ≤ 1000000000 := by
        rw [hsn] at hxl
        split at hxl
        · omega
        · simp at hxl; omega
      have HSn := Lib.hid hsn
      clear hc htk hsn hx hxl
      by_cases hk0 : k = 0
      · subst hk0
        have e0 : joinL ([] : List (List UInt8)) = [] := rfl
        rw [Nat.add_zero] at c1
        go_wp2_with fail
        go_round
        case rel => exact ⟨1, by omega, by go_num, by rw [HSn.out, if_pos (by simp)]⟩
        case measure => simp [intOf]; omega
      · have hq0 : decide ((0 : Int) < k) = true := by simp; omega
        have hk1 : 0 < k := by omega
        have hne : L.take k ≠ [] := by intro e; have := congrArg List.length e; rw [List.length_take, List.length_nil] at this; omega
        have HNe := Lib.hid hne
        clear hk0 hne
        go_wp2_with fail
        go_round
        case rel => exact ⟨k + 1, by omega, by go_num, by rw [HSn.out, if_neg HNe.out]; simp⟩
        case measure => simp [intOf]; omega
    · obtain rfl : k = L.length := by omega
      have hq : decide ((L.length : Int) < L.length) = false := by simp
      have HF := Lib.hid (List.take_of_length_le (Nat.le_refl _) : L.take L.length = L)
      go_wp2_with fail
      go_ret
      exact ⟨rfl, rfl⟩
end Go.Proofs.YthdolmofeeniaaaGreatDoor
end
section
/- The reference of layer 1 (text): Same, Tokens, Valid. -/
set_option linter.unusedSimpArgs false
set_option linter.unusedVariables false
set_option maxRecDepth 100000
namespace Go.Proofs.YthdolmofeeniaaaGreatDoor
open Go.RowKit
attribute [local go_sem] toList_mk mk_size bytes_append
set_option maxHeartbeats 2000000 in
theorem rtokens_any (s : ByteArray) (w : World) (hs : s.size ≤ 1000000) :
    Calls Tryz.prog 54 #[.string s] w fun e w' => ∃ v, e = .returned v ∧ OwnAt w v (toks s.data.toList) w' := by
  have hl : s.data.toList.length = s.size := by simp
  have HL := Lib.hid hl; clear hl
  obtain ⟨l, hl⟩ : ∃ l, s.data.toList = l := ⟨_, rfl⟩
  rw [hl] at HL
  have HLs := Lib.hid hl
  rw [hl]
  clear hl
  go_enter Tryz.func54, Tryz.ntmps54
  go_wp2_with fail
  go_loopw [3, 4, 5] (fun v t i wr => ∃ (k : Nat) (C : List (List UInt8)) (p : List UInt8), k ≤ s.size + 1 ∧ i = .int .i64 k ∧ t = strV p ∧ OwnAt w v C wr ∧ p.length ≤ k ∧ C.length ≤ k ∧ (k = s.size + 1 → p = []) ∧ Hid (toks l = C ++ toksA p (l.drop k))) (fun _ _ i _ => s.size + 1 - (intOf i).toNat)
  case atStart => exact ⟨0, [], [], by omega, rfl, rfl, OwnAt.start w, by simp, by simp, by omega, Lib.hid rfl⟩
  case round =>
    obtain ⟨k, C, p, hk, rfl, rfl, ho, hp, hC, hpe, HT⟩ := hrel
    have HO := Lib.hid ho; have HPe := Lib.hid hpe
    clear ho hpe
    by_cases hlt : k < s.size
    · have hq : decide ((k : Int) ≤ s.size) = true := by simp; omega
      have hq2 : decide ((k : Int) < s.size) = true := by simp; omega
      have hdr := drop_one s k hlt
      rw [HLs.out] at hdr
      by_cases hsp : s[k] = 32
      · have e1 : ((s[k].toNat : Int) != 32) = false := by rw [hsp]; rfl
        rw [hsp] at hdr
        have HD := Lib.hid hdr
        clear hsp hdr
        by_cases hp0 : p = []
        · subst hp0
          go_wp2_with fail
          go_roundw
          case rel => exact ⟨k + 1, C, [], by omega, by go_num, rfl, HO.out, by simp, by omega, fun _ => rfl, Lib.hid (by rw [HT.out, HD.out, toksA_sp0])⟩
          case measure => simp [intOf]; try omega
        · have f1 : (p == []) = false := by simpa using hp0
          have f2 : p.isEmpty = false := by simpa using hp0
          have f3 : (p != []) = true := by simpa using hp0
          have HP0 := Lib.hid hp0; clear hp0
          have hone : ∀ u ∈ (#[strV p] : Array Value).toList, u.oneCell' = true := by intro u hu; simp at hu; subst hu; rfl
          go_wp2_with (at_builtin; refine wpList_append_new rfl _ _ 28 rfl w.heap.size 9 1 16 (.string ⟨#[]⟩) Tryz.underlying28 infoS rfl (by decide) (by decide) _ _ _ rfl HO.out.1 #[strV p] 1 rfl rfl hone (by omega) HO.out.2.size ?_; intro v2 w8 ho8 hw8)
          go_roundw
          case rel => exact ⟨k + 1, C ++ [p], [], by omega, by go_num, rfl, ⟨by rw [List.length_append, flat_snoc]; exact ho8, hw8 _ HO.out.2⟩, by simp, by rw [List.length_append, List.length_singleton]; omega, fun _ => rfl, Lib.hid (by rw [HT.out, HD.out, toksA_sp _ _ HP0.out]; simp)⟩
          case measure => simp [intOf]; try omega
      · have e1 : ((s[k].toNat : Int) != 32) = true := by
          simp only [bne_iff_ne, ne_eq]; intro e; apply hsp; rw [← UInt8.toNat_inj]; simp; omega
        have hext := ext_one s k hlt
        have HD := Lib.hid hdr; have HSp := Lib.hid hsp
        clear hsp hdr
        go_wp2_with fail
        go_roundw
        case rel => exact ⟨k + 1, C, p ++ [s[k]], by omega, by go_num, rfl, HO.out, by simp; omega, by omega, fun h => by omega, Lib.hid (by rw [HT.out, HD.out, toksA_ch _ _ _ HSp.out])⟩
        case measure => simp [intOf]; omega
    · by_cases hke : k = s.size
      · subst hke
        have hq : decide ((s.size : Int) ≤ s.size) = true := by simp
        have hq2 : decide ((s.size : Int) < s.size) = false := by simp
        have hdr : l.drop s.size = [] := List.drop_eq_nil_of_le (by rw [HL.out]; exact Nat.le_refl _)
        have hdr2 : l.drop (s.size + 1) = [] := List.drop_eq_nil_of_le (by rw [HL.out]; omega)
        have HD := Lib.hid hdr; have HD2 := Lib.hid hdr2
        clear hdr hdr2
        by_cases hp0 : p = []
        · subst hp0
          go_wp2_with fail
          go_roundw
          case rel => exact ⟨s.size + 1, C, [], by omega, by go_num, rfl, HO.out, by simp, by omega, fun _ => rfl, Lib.hid (by rw [HT.out, HD.out, HD2.out])⟩
          case measure => simp [intOf]; try omega
        · have f1 : (p == []) = false := by simpa using hp0
          have f2 : p.isEmpty = false := by simpa using hp0
          have f3 : (p != []) = true := by simpa using hp0
          have HP0 := Lib.hid hp0; clear hp0
          have hone : ∀ u ∈ (#[strV p] : Array Value).toList, u.oneCell' = true := by intro u hu; simp at hu; subst hu; rfl
          go_wp2_with (at_builtin; refine wpList_append_new rfl _ _ 28 rfl w.heap.size 9 1 16 (.string ⟨#[]⟩) Tryz.underlying28 infoS rfl (by decide) (by decide) _ _ _ rfl HO.out.1 #[strV p] 1 rfl rfl hone (by omega) HO.out.2.size ?_; intro v2 w8 ho8 hw8)
          go_roundw
          case rel => exact ⟨s.size + 1, C ++ [p], [], by omega, by go_num, rfl, ⟨by rw [List.length_append, flat_snoc]; exact ho8, hw8 _ HO.out.2⟩, by simp, by rw [List.length_append, List.length_singleton]; omega, fun _ => rfl, Lib.hid (by rw [HT.out, HD.out, HD2.out, toksA_end _ HP0.out]; simp [toksA])⟩
          case measure => simp [intOf]; try omega
      · have hq : decide ((k : Int) ≤ s.size) = false := by simp; omega
        obtain rfl : k = s.size + 1 := by omega
        obtain rfl : p = [] := HPe.out rfl
        have hdr2 : l.drop (s.size + 1) = [] := List.drop_eq_nil_of_le (by rw [HL.out]; omega)
        have hT := HT.out
        rw [hdr2] at hT
        have hT' : toks l = C := by rw [hT]; simp [toksA]
        rw [← hT'] at HO
        clear hT hT' hdr2 hke
        go_wp2_with fail
        go_ret
        exact ⟨_, rfl, HO.out⟩
end Go.Proofs.YthdolmofeeniaaaGreatDoor
end
section
/- Plain law: folding, byte after byte. -/
set_option linter.unusedSimpArgs false
set_option linter.unusedVariables false
set_option maxRecDepth 100000
namespace Go.Proofs.YthdolmofeeniaaaGreatDoor
open Go.RowKit
/-- does a text end with a space -/
def endsSp : List UInt8 → Bool
  | [] => false
  | [c] => c == 32
  | _ :: d :: r => endsSp (d :: r)
theorem ends_cons (c : UInt8) {R : List UInt8} (h : R ≠ []) : endsSp (c :: R) = endsSp R := by
  cases R with
  | nil => exact absurd rfl h
  | cons d r => rfl
theorem ends_snoc (R : List UInt8) (c : UInt8) : endsSp (R ++ [c]) = (c == 32) := by
  induction R with
  | nil => rfl
  | cons d R ih => rw [List.cons_append, ends_cons _ (by simp), ih]
theorem ends_app (R : List UInt8) {x : List UInt8} (h : x ≠ []) (h2 : ∀ b ∈ x, b ≠ 32) : endsSp (R ++ x) = false := by
  obtain ⟨y, c, rfl⟩ : ∃ y c, x = y ++ [c] := ⟨_, _, (List.dropLast_concat_getLast h).symm⟩
  rw [← List.append_assoc, ends_snoc]
  simpa using h2 c (by simp)
theorem toksA_only (x : List UInt8) (h2 : ∀ b ∈ x, b ≠ 32) : ∀ p, p ++ x ≠ [] → toksA p x = [p ++ x] := by
  induction x with
  | nil => intro p h; rw [List.append_nil] at h; rw [toksA_end _ h, List.append_nil]
  | cons c x ih =>
    intro p _
    rw [toksA_ch _ _ _ (h2 c List.mem_cons_self), ih (fun b hb => h2 b (List.mem_cons_of_mem _ hb)) _ (by simp)]
    simp
theorem join_nil {T : List (List UInt8)} (h : ∀ t ∈ T, t ≠ []) (e : joinL T = []) : T = [] := by
  cases T with
  | nil => rfl
  | cons t T =>
    exfalso
    by_cases hT : T = []
    · subst hT; exact h t List.mem_cons_self (by simpa [joinL] using e)
    · rw [join_cons_ne _ _ hT] at e; simp at e
theorem spaces_end (R : List UInt8) : toksA [] R = [] → endsSp (32 :: R) = true := by
  induction R with
  | nil => intro _; rfl
  | cons c R ih =>
    intro h
    rw [ends_cons _ (by simp)]
    by_cases hc : c = 32
    · subst hc
      rw [toksA_sp0] at h
      exact ih h
    · exfalso
      rw [toksA_ch _ _ _ hc] at h
      have := (toksA_len R ([] ++ [c])).2
      have h3 : ∀ (R : List UInt8) p, p ≠ [] → toksA p R ≠ [] := by
        intro R
        induction R with
        | nil => intro p hp; rw [toksA_end _ hp]; simp
        | cons d R ih2 =>
          intro p hp
          by_cases hd : d = 32
          · subst hd; rw [toksA_sp _ _ hp]; simp
          · rw [toksA_ch _ _ _ hd]; exact ih2 _ (by simp)
      exact h3 R _ (by simp) h
theorem toksA_more (R : List UInt8) {x : List UInt8} (h : x ≠ []) (h2 : ∀ b ∈ x, b ≠ 32) : ∀ p, toksA p (R ++ x) ≠ [] := by
  induction R with
  | nil => intro p; rw [List.nil_append, toksA_only x h2 p (by simp [h])]; simp
  | cons c R ih =>
    intro p
    rw [List.cons_append]
    by_cases hc : c = 32
    · subst hc
      by_cases hp : p = []
      · subst hp; rw [toksA_sp0]; exact ih []
      · rw [toksA_sp _ _ hp]; simp
    · rw [toksA_ch _ _ _ hc]; exact ih _
/-- a text goes on with bytes that are no spaces -/
theorem join_more {x : List UInt8} (h : x ≠ []) (h2 : ∀ b ∈ x, b ≠ 32) (R : List UInt8) : ∀ p, joinL (toksA p (R ++ x)) = joinL (toksA p R) ++ (if endsSp R = true ∧ joinL (toksA p R) ≠ [] then [32] else []) ++ x := by
  induction R with
  | nil =>
    intro p
    rw [List.nil_append, toksA_only x h2 p (by simp [h]), if_neg (by simp [endsSp])]
    by_cases hp : p = []
    · subst hp; simp [toksA, joinL]
    · rw [toksA_end _ hp]; simp [joinL]
  | cons c R ih =>
    intro p
    rw [List.cons_append]
    by_cases hc : c = 32
    · subst hc
      by_cases hp : p = []
      · subst hp
        rw [toksA_sp0, toksA_sp0, ih []]
        by_cases hR : R = []
        · subst hR; simp [endsSp, toksA, joinL]
        · rw [ends_cons _ hR]
      · rw [toksA_sp _ _ hp, toksA_sp _ _ hp, join_cons_ne _ _ (toksA_more R h h2 []), ih []]
        by_cases hT : toksA [] R = []
        · rw [hT]
          have he := spaces_end R hT
          rw [if_neg (by simp [joinL]), if_pos ⟨he, by simpa [joinL] using hp⟩]
          simp [joinL]
        · have hR : R ≠ [] := by intro e; subst e; exact hT rfl
          have hj : joinL (toksA [] R) ≠ [] := fun e => hT (join_nil (toksA_ne R []) e)
          rw [join_cons_ne _ _ hT, ends_cons _ hR]
          by_cases he : endsSp R = true
          · rw [if_pos ⟨he, hj⟩, if_pos ⟨he, by simp⟩]; simp
          · rw [if_neg (fun h => he h.1), if_neg (fun h => he h.1)]; simp
    · rw [toksA_ch _ _ _ hc, toksA_ch _ _ _ hc, ih]
      by_cases hR : R = []
      · subst hR
        rw [if_neg (by simp [endsSp]), if_neg (by simp [endsSp, hc])]
      · rw [ends_cons _ hR]
theorem fold_more {x : List UInt8} (h : x ≠ []) (h2 : ∀ b ∈ x, b ≠ 32) (R : List UInt8) : joinL (toks (R ++ x)) = joinL (toks R) ++ (if endsSp R = true ∧ joinL (toks R) ≠ [] then [32] else []) ++ x := join_more h h2 R []
theorem fold_space (R : List UInt8) : toks (R ++ [32]) = toks R := toksA_last R []
end Go.Proofs.YthdolmofeeniaaaGreatDoor
end
section
/- The reference of layer 1 (text): Valid, the replacements, Fold. -/
set_option linter.unusedSimpArgs false
set_option linter.unusedVariables false
set_option maxRecDepth 100000
namespace Go.Proofs.YthdolmofeeniaaaGreatDoor
open Go.RowKit
attribute [local go_sem] toList_mk mk_size bytes_append
theorem ok_not_pair (s : ByteArray) (k : Nat) (hk : k < s.size) (h : okByte s[k] = true) : pairAt (s.data.toList.drop k) = false := by
  by_cases h2 : k + 1 < s.size
  · rw [drop_two s k h2]; exact byte_pair h
  · rw [drop_last s k (by omega)]; rfl
theorem pair_facts2 (s : ByteArray) (k : Nat) (h2 : k + 1 < s.size) (h : pairAt (s.data.toList.drop k) = true) : s[k] = 195 ∧ 128 ≤ (s[k + 1].toNat : Int) ∧ (s[k + 1].toNat : Int) ≤ 191 := by
  rw [drop_two s k h2] at h
  have h' : isPair s[k] s[k + 1] = true := h
  rw [pair_iff, decide_eq_true_iff] at h'
  exact ⟨by rw [← UInt8.toNat_inj]; simp; omega, h'.2⟩
set_option maxHeartbeats 2000000 in
theorem rvalid_text (s : ByteArray) (w : World) (hs : s.size ≤ 9223372036854775000) :
    Calls Tryz.prog 270 #[.string s] w fun e w' => e = .returned (.bool (foldV s.data.toList)) ∧ w = w' := by
  have hl : s.data.toList.length = s.size := by simp
  have HL := Lib.hid hl; clear hl
  unfold foldV
  by_cases h64 : s.size ≤ 64
  · have d1 : decide ((64 : Int) < s.size) = false := by simp; omega
    go_enter Tryz.func270, Tryz.ntmps270
    go_wp2_with fail
    clear d1
    go_loop [3] (fun i => ∃ k : Nat, k ≤ s.size ∧ i = .int .i64 k ∧ Hid (validL s.data.toList = validL (s.data.toList.drop k))) (fun i => s.size - (intOf i).toNat)
    case atStart => exact ⟨0, by omega, rfl, Lib.hid rfl⟩
    case round =>
      obtain ⟨k, hk, rfl, HV⟩ := hrel
      by_cases hlt : k < s.size
      · have hq : decide ((k : Int) < s.size) = true := by simp; omega
        have hb := s[k].toNat_lt
        cases hok : okByte s[k]
        · cases hp : pairAt (s.data.toList.drop k)
          · have hv := Lib.hid (valid_one s k hlt hp)
            have HOk := Lib.hid hok
            rw [ok_iff, decide_eq_false_iff_not] at hok
            have hc : (s[k].toNat : Int) < 32 ∨ (32 ≤ (s[k].toNat : Int) ∧ 126 < (s[k].toNat : Int)) := by omega
            clear hok
            have hfalse : validL s.data.toList = false := by rw [HV.out, hv.out, HOk.out]; rfl
            have HF := Lib.hid hfalse
            clear hfalse
            by_cases h195 : s[k] = 195
            · have e1 : ((s[k].toNat : Int) != 195) = false := by rw [h195]; rfl
              by_cases h2 : k + 1 < s.size
              · have e2 : ((k : Int) + 1 == (s.size : Int)) = false := by simp only [beq_eq_false_iff_ne, ne_eq]; omega
                rw [drop_two s k h2] at hp
                have hp' : isPair s[k] s[k + 1] = false := hp
                rw [pair_iff, decide_eq_false_iff_not] at hp'
                have h195' : (s[k].toNat : Int) = 195 := by rw [h195]; rfl
                have hc2 : (s[k + 1].toNat : Int) < 128 ∨ (128 ≤ (s[k + 1].toNat : Int) ∧ 191 < (s[k + 1].toNat : Int)) := by omega
                clear hp hp' h195 h195'
                rcases hc with g1 | ⟨g1, g2⟩ <;> rcases hc2 with g3 | ⟨g3, g4⟩
                all_goals
                  go_wp2_with fail
                  go_ret
                  exact ⟨ret_bool (by rw [HF.out]; try rfl), rfl⟩
              · have e2 : ((k : Int) + 1 == (s.size : Int)) = true := by simp only [beq_iff_eq]; omega
                clear hp h195
                rcases hc with g1 | ⟨g1, g2⟩
                all_goals
                  go_wp2_with fail
                  go_ret
                  exact ⟨ret_bool (by rw [HF.out]; try rfl), rfl⟩
            · have e1 : ((s[k].toNat : Int) != 195) = true := by
                simp only [bne_iff_ne, ne_eq]; intro e; apply h195; rw [← UInt8.toNat_inj]; simp; omega
              clear hp h195
              rcases hc with g1 | ⟨g1, g2⟩
              all_goals
                go_wp2_with fail
                go_ret
                exact ⟨ret_bool (by rw [HF.out]; try rfl), rfl⟩
          · have h2 := pairAt_lt s k hlt hp
            have hv := Lib.hid (valid_two s k hlt hp)
            obtain ⟨g0, g3, g4⟩ := pair_facts2 s k h2 hp
            have e1 : ((s[k].toNat : Int) != 195) = false := by rw [g0]; rfl
            have e2 : ((k : Int) + 1 == (s.size : Int)) = false := by simp only [beq_eq_false_iff_ne, ne_eq]; omega
            have g1 : 32 ≤ (s[k].toNat : Int) := by rw [g0]; decide
            have g2 : 126 < (s[k].toNat : Int) := by rw [g0]; decide
            clear hok hp g0
            go_wp2_with fail
            go_round
            case rel => exact ⟨k + 2, by omega, by go_num, Lib.hid (HV.out.trans hv.out)⟩
            case measure => simp [intOf]; omega
        · have hp := ok_not_pair s k hlt hok
          have hv := Lib.hid (valid_one s k hlt hp)
          have HOk := Lib.hid hok
          rw [ok_iff, decide_eq_true_iff] at hok
          obtain ⟨g1, g2⟩ := hok
          clear hp
          go_wp2_with fail
          go_round
          case rel => exact ⟨k + 1, by omega, by go_num, Lib.hid (HV.out.trans (by rw [hv.out, HOk.out]; rfl))⟩
          case measure => simp [intOf]; omega
      · have hq : decide ((k : Int) < s.size) = false := by simp; omega
        have hd : s.data.toList.drop k = [] := List.drop_eq_nil_of_le (by rw [HL.out]; omega)
        have HD := Lib.hid hd; clear hd
        go_wp2_with fail
        go_ret
        refine ⟨ret_bool ?_, rfl⟩
        rw [HV.out, HD.out]
        first | rfl | (rw [HL.out, decide_eq_true (by omega)]; rfl)
  · have d1 : decide ((64 : Int) < s.size) = true := by simp; omega
    go_enter Tryz.func270, Tryz.ntmps270
    go_wp2_with fail
    go_ret
    exact ⟨ret_bool (by rw [HL.out, decide_eq_false (by omega)]; simp), rfl⟩
end Go.Proofs.YthdolmofeeniaaaGreatDoor
end
section
/- The reference of layer 1 (text): the replacements, Fold. -/
set_option linter.unusedSimpArgs false
set_option linter.unusedVariables false
set_option maxRecDepth 100000
namespace Go.Proofs.YthdolmofeeniaaaGreatDoor
open Go.RowKit
attribute [local go_sem] toList_mk mk_size bytes_append
def tabR : List UInt8 := [97, 97, 97, 97, 97, 97, 63, 63, 101, 101, 101, 101, 105, 105, 105, 105, 100, 110, 111, 111, 111, 111, 111, 63, 111, 117, 117, 117, 117, 121, 63, 63]
def replR (n : Nat) : List UInt8 := if n % 32 = 6 then [97, 101] else if n % 32 = 7 then [99] else if n % 32 = 23 then [] else if n % 32 = 30 then [116, 104] else if n = 31 then [115, 115] else if n = 63 then [121] else [tabR.getD (n % 32) 0]
theorem replB_is : ∀ n : Fin 64, replB (UInt8.ofNat (128 + n)) = replR n := by decide
theorem and_31 : ((List.range 64).all fun n => bits .and .u8 ((128 + n : Nat) : Int) 31 == ((n % 32 : Nat) : Int)) = true := by kernel_rfl
theorem tab_ext (r : Nat) (h : r < 32) : (⟨#[97, 97, 97, 97, 97, 97, 63, 63, 101, 101, 101, 101, 105, 105, 105, 105, 100, 110, 111, 111, 111, 111, 111, 63, 111, 117, 117, 117, 117, 121, 63, 63]⟩ : ByteArray).extract r (r + 1) = ⟨[tabR.getD r 0].toArray⟩ := by
  have h' : r < (⟨tabR.toArray⟩ : ByteArray).size := h
  have := ext_one ⟨tabR.toArray⟩ r h'
  refine this.trans ?_
  congr 3
  rw [List.getD, List.getElem?_eq_getElem (show r < tabR.length from h)]; rfl
set_option maxHeartbeats 2000000 in
theorem rrepl_any (x : UInt8) (w : World) (h1 : 128 ≤ (x.toNat : Int)) (h2 : (x.toNat : Int) ≤ 191) :
    Calls Tryz.prog 271 #[.int .u8 x.toNat] w fun e w' => e = .returned (strV (replB x)) ∧ w = w' := by
  obtain ⟨n, hn⟩ : ∃ n : Nat, x.toNat = 128 + n := ⟨x.toNat - 128, by omega⟩
  have hn64 : n < 64 := by omega
  have hx : x = UInt8.ofNat (128 + n) := by rw [← hn]; simp
  have hR : replB x = replR n := by rw [hx]; exact replB_is ⟨n, hn64⟩
  have hand : bits .and .u8 (x.toNat : Int) 31 = ((n % 32 : Nat) : Int) := by
    have := List.all_eq_true.1 and_31 n (List.mem_range.2 hn64)
    rw [hn]; simpa using this
  obtain ⟨r, hr⟩ : ∃ r, n % 32 = r := ⟨_, rfl⟩
  have hr32 : r < 32 := by omega
  have hRr : replR n = if r = 6 then [97, 101] else if r = 7 then [99] else if r = 23 then [] else if r = 30 then [116, 104] else if n = 31 then [115, 115] else if n = 63 then [121] else [tabR.getD r 0] := by unfold replR; rw [hr]
  rw [hR, hRr]
  rw [hr] at hand
  have hn1 : (x.toNat : Int) = 128 + (n : Int) := by omega
  have hb := x.toNat_lt
  have HR := Lib.hid hr; have HN := Lib.hid hn1
  clear hx hR hRr hr hn hn1
  by_cases c6 : r = 6
  · subst c6
    go_enter Tryz.func271, Tryz.ntmps271
    go_wp2_with fail
    go_ret
    exact ⟨rfl, rfl⟩
  · have e6 : ((r : Int) == 6) = false := by simp only [beq_eq_false_iff_ne, ne_eq]; omega
    rw [if_neg c6]
    by_cases c7 : r = 7
    · subst c7
      clear c6
      go_enter Tryz.func271, Tryz.ntmps271
      go_wp2_with fail
      go_ret
      exact ⟨rfl, rfl⟩
    · have e7 : ((r : Int) == 7) = false := by simp only [beq_eq_false_iff_ne, ne_eq]; omega
      rw [if_neg c7]
      by_cases c23 : r = 23
      · subst c23
        clear c6 c7
        go_enter Tryz.func271, Tryz.ntmps271
        go_wp2_with fail
        go_ret
        exact ⟨rfl, rfl⟩
      · have e23 : ((r : Int) == 23) = false := by simp only [beq_eq_false_iff_ne, ne_eq]; omega
        rw [if_neg c23]
        by_cases c30 : r = 30
        · subst c30
          clear c6 c7 c23
          go_enter Tryz.func271, Tryz.ntmps271
          go_wp2_with fail
          go_ret
          exact ⟨rfl, rfl⟩
        · have e30 : ((r : Int) == 30) = false := by simp only [beq_eq_false_iff_ne, ne_eq]; omega
          rw [if_neg c30]
          by_cases n31 : n = 31
          · have e31 : ((x.toNat : Int) == 159) = true := by simp only [beq_iff_eq]; rw [HN.out]; omega
            rw [if_pos n31]
            clear c6 c7 c23 c30 n31
            go_enter Tryz.func271, Tryz.ntmps271
            go_wp2_with fail
            go_ret
            exact ⟨rfl, rfl⟩
          · have e31 : ((x.toNat : Int) == 159) = false := by simp only [beq_eq_false_iff_ne, ne_eq]; rw [HN.out]; omega
            rw [if_neg n31]
            by_cases n63 : n = 63
            · have e63 : ((x.toNat : Int) == 191) = true := by simp only [beq_iff_eq]; rw [HN.out]; omega
              rw [if_pos n63]
              clear c6 c7 c23 c30 n31 n63
              go_enter Tryz.func271, Tryz.ntmps271
              go_wp2_with fail
              go_ret
              exact ⟨rfl, rfl⟩
            · have e63 : ((x.toNat : Int) == 191) = false := by simp only [beq_eq_false_iff_ne, ne_eq]; rw [HN.out]; omega
              rw [if_neg n63]
              have hext := tab_ext r hr32
              clear c6 c7 c23 c30 n31 n63
              go_enter Tryz.func271, Tryz.ntmps271
              go_wp2_with fail
              go_ret
              exact ⟨rfl, rfl⟩
end Go.Proofs.YthdolmofeeniaaaGreatDoor
end
