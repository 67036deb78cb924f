/- Parts of one proof: RefNameB, RefNameC, RefNameD, RefGramA, MakeR. -/
import Derived.Test.YtfgoiojmbphmnaaGreatDoorPartSchemaExact5
import Derived.Deep.CutBlock
import Derived.Deep.DeepCutAuto
section
/- The reference of layer 2 (name): Replace, Canonical, Dropped, pairs. -/
set_option linter.unusedSimpArgs false
set_option linter.unusedVariables false
set_option maxRecDepth 100000
namespace Go.Proofs.YtfgoiojmbphmnaaGreatDoor
open Go.RowKit
attribute [local go_sem] toList_mk mk_size bytes_append
theorem canon_drop {L : List P2} {s : List UInt8} (k : Nat) (hk : k < L.length) : canonL (L.drop k) s = if (L.getD k default).1 = s then (L.getD k default).2 else canonL (L.drop (k + 1)) s := by
  rw [List.drop_eq_getElem_cons hk, List.getD, List.getElem?_eq_getElem hk]
  simp only [Option.getD_some, canonL, beq_iff_eq]
set_option maxHeartbeats 1000000 in
theorem rreplace_any (S : Nat → Prop) (v : Value) (L : List P2) (x : List UInt8) (w : World) (h : Vec w S 2 encP v L) (hn : L.length ≤ 1000000) :
    Calls Tryz.prog 96 #[v, strV x] w fun e w' => e = .returned (strV (canonL L x)) ∧ w = w' := by
  obtain ⟨a, cap, rfl⟩ := h.slice
  have HV := Lib.hid h; clear h
  go_enter Tryz.func96, Tryz.ntmps96
  go_wp2_with fail
  go_loop [5] (fun i => ∃ k : Nat, k ≤ L.length ∧ i = .int .i64 k ∧ Hid (canonL L x = canonL (L.drop k) x)) (fun i => L.length - (intOf i).toNat)
  case atStart => exact ⟨0, by omega, rfl, Lib.hid rfl⟩
  case round =>
    obtain ⟨k, hk, rfl, HA⟩ := hrel
    by_cases hlt : k < L.length
    · have hq : decide ((k : Int) < L.length) = true := by simp; omega
      obtain ⟨b, off, rfl, _, hb, hc⟩ := vec_cell2 HV.out (by omega)
      have c0 := hc k hlt 0 _ rfl
      have c1 := hc k hlt 1 _ rfl
      rw [Nat.add_zero] at c0
      have hd := canon_drop (s := x) k hlt
      obtain ⟨⟨y, z⟩, hy⟩ : ∃ y, L.getD k default = y := ⟨_, rfl⟩
      rw [hy] at c0 c1 hd
      dsimp only at c0 c1 hd
      have HD := Lib.hid hd
      clear hc hy hd
      by_cases he : y = x
      · subst he
        go_wp2_with fail
        go_ret
        exact ⟨by show Ending.returned (strV z) = .returned (strV (canonL L y)); rw [HA.out, HD.out]; simp, rfl⟩
      · have e1 : (y == x) = false := by simpa using he
        have HE := Lib.hid he; clear he
        go_wp2_with fail
        go_round
        case rel => exact ⟨k + 1, by omega, by go_num, Lib.hid (by rw [HA.out, HD.out, if_neg HE.out])⟩
        case measure => simp [intOf]; omega
    · have hq : decide ((k : Int) < L.length) = false := by simp; omega
      have hfin : canonL L x = x := by rw [HA.out, List.drop_eq_nil_of_le (by omega)]; rfl
      have HF := Lib.hid hfin; clear hfin
      go_wp2_with fail
      go_ret
      exact ⟨by show Ending.returned (strV x) = .returned (strV (canonL L x)); rw [HF.out], rfl⟩
set_option maxHeartbeats 400000 in
theorem rcanonical_any (S : Nat → Prop) (vt vn vs : Value) (L : List P2) (x : List UInt8) (w : World) (h : Vec w S 2 encP vn L) (hn : L.length ≤ 1000000) :
    Calls Tryz.prog 93 #[.agg #[vt, vn, vs], strV x] w fun e w' => e = .returned (strV (canonL L x)) ∧ Below w.heap.size w w' := by
  have HV := Lib.hid h; clear h
  go_enter Tryz.func93, Tryz.ntmps93
  go_wp2_with fail
  refine (rreplace_any S vn L x _ (HV.out.below ((Below.refl _ _).alloc (Nat.le_refl _) _)) hn).mono ?_
  rintro e w' ⟨rfl, rfl⟩
  go_wp2_with fail
  go_ret
  exact ⟨rfl, (Below.refl _ _).alloc (Nat.le_refl _) _⟩
set_option maxHeartbeats 400000 in
theorem rdropped_any (S : Nat → Prop) (vt vn vs : Value) (L : List (List UInt8)) (x : List UInt8) (w : World) (h : Vec w S 1 encS vt L) (hn : L.length ≤ 1000000) :
    Calls Tryz.prog 92 #[.agg #[vt, vn, vs], strV x] w fun e w' => e = .returned (.bool (hasB L x)) ∧ Below w.heap.size w w' := by
  have HV := Lib.hid h; clear h
  go_enter Tryz.func92, Tryz.ntmps92
  go_wp2_with fail
  refine (rhas_any S vt L x _ (HV.out.below ((Below.refl _ _).alloc (Nat.le_refl _) _)) hn).mono ?_
  rintro e w' ⟨rfl, rfl⟩
  go_wp2_with fail
  go_ret
  exact ⟨rfl, (Below.refl _ _).alloc (Nat.le_refl _) _⟩
theorem find_has_from (s : List UInt8) : ∀ (L : List P2) (i : Nat), decide (Lib.idxByFrom (fun _ (y : P2) => y.1 == s) default L i < 0) = !hasB (L.map (·.1)) s := by
  intro L
  induction L with
  | nil => intro i; simp [Lib.idxByFrom, hasB]
  | cons p L ih =>
    intro i
    have e : hasB ((p :: L).map (·.1)) s = (p.1 == s || hasB (L.map (·.1)) s) := by simp [hasB]
    rw [e]
    cases h : p.1 == s
    · simp only [Lib.idxByFrom, h, Bool.false_eq_true, if_false, Bool.false_or]
      exact ih (i + 1)
    · simp only [Lib.idxByFrom, h, if_true, Bool.true_or, Bool.not_true]
      simp
theorem find_has (L : List P2) (s : List UInt8) : decide (findI L s < 0) = !hasB (L.map (·.1)) s := find_has_from s L 0
theorem map_getD (L : List P2) (j : Nat) (h : j < L.length) : (L.map (·.1)).getD j [] = (L.getD j default).1 := by
  rw [List.getD, List.getD, List.getElem?_map, List.getElem?_eq_getElem h]; rfl
theorem pairAt_is (L : List P2) (j : Nat) (h : j < L.length) : pairAtB L j = (tokenB (L.getD j default).1 && tokenB (L.getD j default).2 && ascAt (L.map (·.1)) j && !hasB (L.map (·.1)) (L.getD j default).2) := by
  unfold pairAtB ascAt
  rw [find_has, map_getD L j h]
  by_cases h0 : j = 0
  · subst h0; simp
  · rw [map_getD L (j - 1) (by omega)]
theorem pairs_no_tok {L : List P2} {j : Nat} (h : j < L.length) (ht : (tokenB (L.getD j default).1 && tokenB (L.getD j default).2) = false) : pairsB L = false := by
  unfold pairsB
  exact all_false h (by rw [pairAt_is L j h, ht]; simp)
theorem pairs_no_has {L : List P2} {j : Nat} (h : j < L.length) (ht : hasB (L.map (·.1)) (L.getD j default).2 = true) : pairsB L = false := by
  unfold pairsB
  exact all_false h (by rw [pairAt_is L j h, ht]; simp)
theorem pairs_asc {L : List P2} (h1 : ∀ j, j < L.length → (tokenB (L.getD j default).1 && tokenB (L.getD j default).2) = true) (h2 : ∀ j, j < L.length → hasB (L.map (·.1)) (L.getD j default).2 = false) : pairsB L = ascL (L.map (·.1)) := by
  unfold pairsB ascL
  rw [List.length_map]
  refine Bool.eq_iff_iff.2 ⟨fun h => ?_, fun h => ?_⟩
  · refine List.all_eq_true.2 fun j hj => ?_
    have := List.all_eq_true.1 h j hj
    rw [pairAt_is L j (List.mem_range.1 hj)] at this
    simp only [Bool.and_eq_true] at this
    exact this.1.2
  · refine List.all_eq_true.2 fun j hj => ?_
    have := List.all_eq_true.1 h j hj
    have hj' := List.mem_range.1 hj
    rw [pairAt_is L j hj', h1 j hj', h2 j hj', this]; rfl
theorem flat_fst_snoc (L : List P2) (k : Nat) (h : k < L.length) : (L.take (k + 1)).map (·.1) = (L.take k).map (·.1) ++ [(L.getD k default).1] := by
  rw [take_snocA L k h, List.map_append]; rfl
set_option maxHeartbeats 2000000 in
theorem rpairs_any (S : Nat → Prop) (v : Value) (L : List P2) (w : World) (h : Vec w S 2 encP v L) (hn : L.length ≤ 1000000) :
    Calls Tryz.prog 89 #[v] w fun e w' => e = .returned (.bool (pairsB L)) ∧ Below w.heap.size w w' := by
  obtain ⟨a, cap, rfl⟩ := h.slice
  have HV := Lib.hid h; clear h
  go_enter Tryz.func89, Tryz.ntmps89
  go_wp2_with fail
  go_loopw [3, 4] (fun f i wr => ∃ k : Nat, k ≤ L.length ∧ i = .int .i64 k ∧ OwnAt w f ((L.take k).map (·.1)) wr ∧ Hid (∀ j, j < k → (tokenB (L.getD j default).1 && tokenB (L.getD j default).2) = true)) (fun _ i _ => L.length - (intOf i).toNat)
  case atStart => exact ⟨0, by omega, rfl, OwnAt.start w, Lib.hid fun j hj => by omega⟩
  case round =>
    obtain ⟨k, hk, rfl, ho, HA⟩ := hrel
    have HO := Lib.hid ho; clear ho
    by_cases hlt : k < L.length
    · have hq : decide ((k : Int) < L.length) = true := by simp; omega
      obtain ⟨b, off, rfl, _, hb, hc⟩ := vec_cell2 HV.out (by omega)
      have k0 := hc k hlt 0 _ rfl
      rw [Nat.add_zero] at k0
      have c0 := (HO.out.2.cell (p := ⟨b, off + k * 2, none⟩) hb).trans k0
      clear k0
      have c1 := (HO.out.2.cell (p := ⟨b, off + k * 2 + 1, none⟩) hb).trans (hc k hlt 1 _ rfl)
      have hfs := flat_fst_snoc L k hlt
      have hno := pairs_no_tok (L := L) (j := k) hlt
      obtain ⟨⟨y, z⟩, hy⟩ : ∃ y, L.getD k default = y := ⟨_, rfl⟩
      rw [hy] at c0 c1 hfs hno
      dsimp only at c0 c1 hfs hno
      have HFs := Lib.hid hfs; have HNo := Lib.hid hno; have HY := Lib.hid hy
      clear hc hy hfs hno
      go_wp2_with fail
      refine (rtoken_any y _).mono ?_
      cases ht : tokenB y
      · rintro e w' ⟨rfl, rfl⟩
        have HT := Lib.hid ht; clear ht
        go_wp2_with fail
        go_ret
        exact ⟨ret_bool (by rw [HNo.out (by rw [HT.out]; rfl)]), HO.out.2⟩
      · rintro e w' ⟨rfl, rfl⟩
        have HT := Lib.hid ht; clear ht
        go_wp2_with fail
        refine (rtoken_any z _).mono ?_
        cases ht2 : tokenB z
        · rintro e w' ⟨rfl, rfl⟩
          have HT2 := Lib.hid ht2; clear ht2
          go_wp2_with fail
          go_ret
          exact ⟨ret_bool (by rw [HNo.out (by rw [HT.out, HT2.out]; rfl)]), HO.out.2⟩
        · rintro e w' ⟨rfl, rfl⟩
          have HT2 := Lib.hid ht2; clear ht2
          have hlen : ((L.take k).map (·.1)).length < 1099511627776 := by have := List.length_take_le k L; rw [List.length_map]; omega
          have hone : ∀ u ∈ (#[strV y] : Array Value).toList, u.oneCell' = true := by intro u hu; simp at hu; subst hu; rfl
          go_wp2_with (at_builtin; refine wpList_append_new rfl _ _ 28 rfl w.heap.size 9 1 16 (.string ⟨#[]⟩) Tryz.underlying28 infoS rfl (by decide) (by decide) _ _ _ rfl HO.out.1 #[strV y] 1 rfl rfl hone hlen HO.out.2.size ?_; intro v2 w8 ho8 hw8)
          go_roundw
          case rel => exact ⟨k + 1, by omega, by go_num, ⟨by rw [HFs.out, List.length_append, flat_snoc]; exact ho8, hw8 _ HO.out.2⟩, Lib.hid fun j hj => by
            by_cases e : j = k
            · subst e; rw [HY.out, HT.out, HT2.out]; rfl
            · exact HA.out j (by omega)⟩
          case measure => simp [intOf]; omega
    · have hq : decide ((k : Int) < L.length) = false := by simp; omega
      obtain rfl : k = L.length := by omega
      rw [List.take_of_length_le (Nat.le_refl _)] at HO
      have HF := Lib.hid (Vec.owns (S := Any1) (k := 1) (enc := encS) (fun _ => rfl) HO.out.1 (fun _ _ _ => trivial))
      have hml : (L.map (·.1)).length ≤ 1000000 := by rw [List.length_map]; exact hn
      obtain ⟨wo, rfl⟩ : ∃ wo : World, wo = wr := ⟨_, rfl⟩
      go_wp2_with fail
      go_loopw [5] (fun i wr => ∃ k : Nat, k ≤ L.length ∧ i = .int .i64 k ∧ wr = wo ∧ Hid (∀ j, j < k → hasB (L.map (·.1)) (L.getD j default).2 = false)) (fun i _ => L.length - (intOf i).toNat)
      case atStart => exact ⟨0, by omega, rfl, rfl, Lib.hid fun j hj => by omega⟩
      case round =>
        obtain ⟨k, hk2, rfl, rfl, HB⟩ := hrel
        by_cases hlt2 : k < L.length
        · have hq2 : decide ((k : Int) < L.length) = true := by simp; omega
          obtain ⟨b, off, rfl, _, hb, hc⟩ := vec_cell2 HV.out (by omega)
          have c1 := (HO.out.2.cell (p := ⟨b, off + k * 2 + 1, none⟩) hb).trans (hc k hlt2 1 _ rfl)
          have hno := pairs_no_has (L := L) (j := k) hlt2
          obtain ⟨⟨y, z⟩, hy⟩ : ∃ y, L.getD k default = y := ⟨_, rfl⟩
          rw [hy] at c1 hno
          dsimp only at c1 hno
          have HNo := Lib.hid hno; have HY := Lib.hid hy
          clear hc hy hno
          go_wp2_with fail
          refine (rhas_any Any1 _ (L.map (·.1)) z _ HF.out hml).mono ?_
          cases ht : hasB (L.map (·.1)) z
          · rintro e w' ⟨rfl, rfl⟩
            have HT := Lib.hid ht; clear ht
            go_wp2_with fail
            go_roundw
            case rel => exact ⟨k + 1, by omega, by go_num, by trivial, Lib.hid fun j hj => by
              by_cases e : j = k
              · subst e; rw [HY.out]; exact HT.out
              · exact HB.out j (by omega)⟩
            case measure => simp [intOf]; omega
          · rintro e w' ⟨rfl, rfl⟩
            have HT := Lib.hid ht; clear ht
            go_wp2_with fail
            go_ret
            exact ⟨ret_bool (by rw [HNo.out HT.out]), HO.out.2⟩
        · have hq2 : decide ((k : Int) < L.length) = false := by simp; omega
          have hfin := pairs_asc (L := L) HA.out (fun j hj => HB.out j (by omega))
          have HFin := Lib.hid hfin; clear hfin
          go_wp2_with fail
          refine (rasc_any Any1 _ (L.map (·.1)) _ HF.out hml).mono ?_
          rintro e w2 ⟨rfl, hb2⟩
          have HB2 := Lib.hid (HO.out.2.trans (hb2.mono HO.out.2.size))
          clear hb2
          go_wp2_with fail
          go_ret
          exact ⟨ret_bool (by rw [HFin.out]), HB2.out⟩
end Go.Proofs.YtfgoiojmbphmnaaGreatDoor
end
section
/- The reference of layer 2 (name): Check. -/
set_option linter.unusedSimpArgs false
set_option linter.unusedVariables false
set_option maxRecDepth 100000
namespace Go.Proofs.YtfgoiojmbphmnaaGreatDoor
open Go.RowKit
attribute [local go_sem] toList_mk mk_size bytes_append
theorem titles_is {L : List (List UInt8)} (h : ∀ j, j < L.length → tokenB (L.getD j []) = true) : titlesB L = ascL L := by
  unfold titlesB ascL
  refine Bool.eq_iff_iff.2 ⟨fun g => ?_, fun g => ?_⟩
  · refine List.all_eq_true.2 fun j hj => ?_
    have := List.all_eq_true.1 g j hj
    unfold titleAt at this
    rw [Bool.and_eq_true] at this
    exact this.2
  · refine List.all_eq_true.2 fun j hj => ?_
    have := List.all_eq_true.1 g j hj
    unfold titleAt
    rw [h j (List.mem_range.1 hj)]
    exact this
theorem titles_no {L : List (List UInt8)} {j : Nat} (h : j < L.length) (ht : tokenB (L.getD j []) = false) : titlesB L = false := by
  unfold titlesB
  exact all_false h (by unfold titleAt; rw [ht]; rfl)
set_option maxHeartbeats 8000000 in
theorem rncheck_any (S : Nat → Prop) (vt vn vs : Value) (r : RulesL) (w : World) (h : RulesAt w S vt vn vs r) :
    Calls Tryz.prog 53 #[.agg #[vt, vn, vs]] w fun e w' => e = .returned (.int .i64 (checkR r)) ∧ Below w.heap.size w w' := by
  obtain ⟨lt, ln, ls⟩ := r
  obtain ⟨h1, h2, h3⟩ := h
  dsimp only at h1 h2 h3
  obtain ⟨at1, ct, rfl⟩ := h1.slice
  obtain ⟨an, cn, rfl⟩ := h2.slice
  obtain ⟨as', cs, rfl⟩ := h3.slice
  have H1 := Lib.hid h1.any; have H2 := Lib.hid h2.any; have H3 := Lib.hid h3.any
  clear h1 h2 h3
  have hfin : ∀ n : Int, checkR ⟨lt, ln, ls⟩ = n → Ending.returned (.int .i64 n) = .returned (.int .i64 (checkR ⟨lt, ln, ls⟩)) := fun n h => by rw [h]
  have HF := Lib.hid hfin; clear hfin
  by_cases g1 : 32 < lt.length
  · have e1 : decide ((32 : Int) < lt.length) = true := by simp; omega
    go_enter Tryz.func53, Tryz.ntmps53
    go_wp2_with fail
    go_ret
    exact ⟨HF.out 1 (by unfold checkR; rw [if_pos (.inl g1)]), (Below.refl _ _).alloc (Nat.le_refl _) _⟩
  · have e1 : decide ((32 : Int) < lt.length) = false := by simp; omega
    by_cases g2 : 32 < ln.length
    · have e2 : decide ((32 : Int) < ln.length) = true := by simp; omega
      go_enter Tryz.func53, Tryz.ntmps53
      go_wp2_with fail
      go_ret
      exact ⟨HF.out 1 (by unfold checkR; rw [if_pos (.inr (.inl g2))]), (Below.refl _ _).alloc (Nat.le_refl _) _⟩
    · have e2 : decide ((32 : Int) < ln.length) = false := by simp; omega
      by_cases g3 : 32 < ls.length
      · have e3 : decide ((32 : Int) < ls.length) = true := by simp; omega
        go_enter Tryz.func53, Tryz.ntmps53
        go_wp2_with fail
        go_ret
        exact ⟨HF.out 1 (by unfold checkR; rw [if_pos (.inr (.inr g3))]), (Below.refl _ _).alloc (Nat.le_refl _) _⟩
      · have e3 : decide ((32 : Int) < ls.length) = false := by simp; omega
        have hle : ¬ (32 < lt.length ∨ 32 < ln.length ∨ 32 < ls.length) := by omega
        have HLe := Lib.hid hle; clear hle
        go_enter Tryz.func53, Tryz.ntmps53
        go_wp2_with fail
        clear e1 e2 e3
        refine wp_world (fun W hW => ?_)
        have HX := Lib.hid (show W.heap[w.heap.size]? = some (.cells #[.slice at1 lt.length ct, .slice an ln.length cn, .slice as' ls.length cs] 31 (0, 0)) from by rw [hW]; exact blk_new rfl)
        have HB := Lib.hid (show Below w.heap.size w W from by rw [hW]; exact (Below.refl _ _).alloc (Nat.le_refl _) _)
        have zW : w.heap.size < W.heap.size := lt_of_blk HX.out
        clear hW
        obtain ⟨p0, p1, p2⟩ := cells3 HX.out
        go_loop [3] (fun i => ∃ k : Nat, k ≤ lt.length ∧ i = .int .i64 k ∧ Hid (∀ j, j < k → tokenB (lt.getD j []) = true)) (fun i => lt.length - (intOf i).toNat)
        case atStart => exact ⟨0, by omega, rfl, Lib.hid fun j hj => by omega⟩
        case round =>
          obtain ⟨k, hk, rfl, HA⟩ := hrel
          by_cases hlt : k < lt.length
          · have hq : decide ((k : Int) < lt.length) = true := by simp; omega
            obtain ⟨b, off, rfl, _, hb, hc⟩ := vec_cell1 (H1.out.below HB.out) (by omega)
            have c1 := hc k hlt
            obtain ⟨x, hx⟩ : ∃ x, lt.getD k [] = x := ⟨_, rfl⟩
            rw [hx] at c1
            have HXx := Lib.hid hx
            clear hc hx
            go_wp2_with fail
            refine (rtoken_any x _).mono ?_
            cases ht : tokenB x
            · rintro e w' ⟨rfl, rfl⟩
              have HT := Lib.hid ht; clear ht
              go_wp2_with fail
              go_ret
              exact ⟨HF.out 5 (by unfold checkR; rw [if_neg HLe.out, titles_no (j := k) hlt (by rw [HXx.out]; exact HT.out)]; simp), HB.out⟩
            · rintro e w' ⟨rfl, rfl⟩
              have HT := Lib.hid ht; clear ht
              go_wp2_with fail
              go_round
              case rel => exact ⟨k + 1, by omega, by go_num, Lib.hid fun j hj => by
                by_cases e : j = k
                · subst e; rw [HXx.out]; exact HT.out
                · exact HA.out j (by omega)⟩
              case measure => simp [intOf]; omega
          · have hq : decide ((k : Int) < lt.length) = false := by simp; omega
            have hti := Lib.hid (titles_is (L := lt) (fun j hj => HA.out j (by omega)))
            go_wp2_with fail
            refine (rasc_any Any1 _ lt _ (H1.out.below HB.out) (by omega)).mono ?_
            rw [← hti.out]
            rintro e w1 ⟨rfl, hb1⟩
            have HX1 := Lib.hid (blk_below hb1 zW HX.out)
            have HB1 := Lib.hid (HB.out.trans (hb1.mono HB.out.size))
            clear hb1 p0 p1 p2
            obtain ⟨p0, p1, p2⟩ := cells3 HX1.out
            have z1 : w.heap.size < w1.heap.size := lt_of_blk HX1.out
            cases ht : titlesB lt
            · have HT := Lib.hid ht; clear ht
              go_wp2_with fail
              go_ret
              exact ⟨HF.out 5 (by unfold checkR; rw [if_neg HLe.out, HT.out]; simp), HB1.out⟩
            · have HT := Lib.hid ht; clear ht
              go_wp2_with fail
              refine (rpairs_any Any1 _ ln _ (H2.out.below HB1.out) (by omega)).mono ?_
              rintro e w2 ⟨rfl, hb2⟩
              have HX2 := Lib.hid (blk_below hb2 z1 HX1.out)
              have HB2 := Lib.hid (HB1.out.trans (hb2.mono HB1.out.size))
              clear hb2 p0 p1 p2
              obtain ⟨p0, p1, p2⟩ := cells3 HX2.out
              have z2 : w.heap.size < w2.heap.size := lt_of_blk HX2.out
              cases hp : pairsB ln
              · have HP := Lib.hid hp; clear hp
                go_wp2_with fail
                go_ret
                exact ⟨HF.out 5 (by unfold checkR; rw [if_neg HLe.out, HT.out, HP.out]; simp), HB2.out⟩
              · have HP := Lib.hid hp; clear hp
                go_wp2_with fail
                refine (rpairs_any Any1 _ ls _ (H3.out.below HB2.out) (by omega)).mono ?_
                rintro e w3 ⟨rfl, hb3⟩
                have HX3 := Lib.hid (blk_below hb3 z2 HX2.out)
                have HB3 := Lib.hid (HB2.out.trans (hb3.mono HB2.out.size))
                clear hb3 p0 p1 p2
                cases hs : pairsB ls
                · have HS := Lib.hid hs; clear hs
                  go_wp2_with fail
                  go_ret
                  exact ⟨HF.out 5 (by unfold checkR; rw [if_neg HLe.out, HT.out, HP.out, HS.out]; simp), HB3.out⟩
                · have HS := Lib.hid hs; clear hs
                  have hck : checkR ⟨lt, ln, ls⟩ = if (ln.any fun x => hasB lt x.2) = true then 5 else 0 := by
                    unfold checkR
                    rw [if_neg HLe.out, HT.out, HP.out, HS.out]; simp
                  have HCk := Lib.hid hck; clear hck
                  go_wp2_with fail
                  go_loopw [4] (fun i wr => ∃ k : Nat, k ≤ ln.length ∧ i = .int .i64 k ∧ Below w3.heap.size w3 wr ∧ Hid (∀ j, j < k → hasB lt (ln.getD j default).2 = false)) (fun i _ => ln.length - (intOf i).toNat)
                  case atStart => exact ⟨0, by omega, rfl, Below.refl _ _, Lib.hid fun j hj => by omega⟩
                  case round =>
                    obtain ⟨k, hk2, rfl, hbw, HH⟩ := hrel
                    have HW := Lib.hid (HB3.out.trans (hbw.mono HB3.out.size))
                    have HXw := Lib.hid (blk_below hbw (lt_of_blk HX3.out) HX3.out)
                    have HBw := Lib.hid hbw
                    clear hbw
                    have zw := lt_of_blk HXw.out
                    obtain ⟨p0, p1, p2⟩ := cells3 HXw.out
                    by_cases hlt2 : k < ln.length
                    · have hq2 : decide ((k : Int) < ln.length) = true := by simp; omega
                      have hi : (k : Int) < (ln.length : Int) := by omega
                      obtain ⟨b, off, rfl, _, hb, hc⟩ := vec_cell2 (H2.out.below HW.out) (by omega)
                      have c1 := hc k hlt2 1 _ rfl
                      obtain ⟨⟨y, z⟩, hy⟩ : ∃ y, ln.getD k default = y := ⟨_, rfl⟩
                      have hmem : ln.getD k default ∈ ln := by rw [List.getD, List.getElem?_eq_getElem hlt2]; exact List.getElem_mem hlt2
                      rw [hy] at c1 hmem
                      dsimp only at c1
                      have HY := Lib.hid hy; have HM := Lib.hid hmem
                      clear hc hy hmem
                      go_wp2_with fail
                      refine wp_region_noPanic ?_
                      refine wp_region_held_drew (S := (fun w' => w'.cell? ⟨w.heap.size, 0, none⟩ = some (.slice at1 lt.length ct) ∧ w'.cell? ⟨w.heap.size, 1, none⟩ = some (.slice (some ⟨b, off, none⟩) ln.length cn) ∧ w'.cell? ⟨b, off + k * 2 + 1, none⟩ = some (strV z))) (by kernel_rfl) (⟨p0, p1, c1⟩) (fun hHeld => ?_)
                      refine wpAnyH_take (i := 0) (v := ?_) rfl (by kernel_rfl) (by kernel_rfl) (by kernel_rfl) (fun _ _ _ h => h) (Or.inl ⟨by rfl, ?_⟩) (by assumption) ?_
                      rotate_left 1
                      · (intro wS hSw; (try dsimp only at hSw); go_simp; try with_reducible rfl)
                      try simp only [List.getElem_toArray, List.getElem_cons_zero, List.getElem_cons_succ, Act.put, List.setIfInBounds_toArray, List.set_cons_zero, List.set_cons_succ]
                      refine wpAnyH_take (i := 1) (v := ?_) rfl (by kernel_rfl) (by kernel_rfl) (by kernel_rfl) (fun _ _ _ h => h) (Or.inl ⟨by rfl, ?_⟩) (by assumption) ?_
                      rotate_left 1
                      · (intro wS hSw; (try dsimp only at hSw); go_simp; try with_reducible rfl)
                      try simp only [List.getElem_toArray, List.getElem_cons_zero, List.getElem_cons_succ, Act.put, List.setIfInBounds_toArray, List.set_cons_zero, List.set_cons_succ]
                      refine wpAnyH_take (i := 2) (v := ?_) rfl (by kernel_rfl) (by kernel_rfl) (by kernel_rfl) (fun _ _ _ h => h) (Or.inl ⟨by rfl, ?_⟩) (by assumption) ?_
                      rotate_left 1
                      · (intro wS hSw; (try dsimp only at hSw); go_simp; try with_reducible rfl)
                      try simp only [List.getElem_toArray, List.getElem_cons_zero, List.getElem_cons_succ, Act.put, List.setIfInBounds_toArray, List.set_cons_zero, List.set_cons_succ]
                      refine wpAnyH_take (i := 3) (v := ?_) rfl (by kernel_rfl) (by kernel_rfl) (by kernel_rfl) (fun _ _ _ h => h) (Or.inl ⟨by rfl, ?_⟩) (by assumption) ?_
                      rotate_left 1
                      · (intro wS hSw; (try dsimp only at hSw); go_simp; try with_reducible rfl)
                      try simp only [List.getElem_toArray, List.getElem_cons_zero, List.getElem_cons_succ, Act.put, List.setIfInBounds_toArray, List.set_cons_zero, List.set_cons_succ]
                      refine wpAnyH_take (i := 4) (v := ?_) rfl (by kernel_rfl) (by kernel_rfl) (by kernel_rfl) (fun _ _ _ h => h) (Or.inl ⟨by rfl, ?_⟩) (by assumption) ?_
                      rotate_left 1
                      · (intro wS hSw; (try dsimp only at hSw); go_simp; try with_reducible rfl)
                      try simp only [List.getElem_toArray, List.getElem_cons_zero, List.getElem_cons_succ, Act.put, List.setIfInBounds_toArray, List.set_cons_zero, List.set_cons_succ]
                      refine wpAnyH_take (i := 5) (v := ?_) rfl (by kernel_rfl) (by kernel_rfl) (by kernel_rfl) (fun _ _ _ h => h) (Or.inl ⟨by rfl, ?_⟩) (by assumption) ?_
                      rotate_left 1
                      · (intro wS hSw; (try dsimp only at hSw); go_simp; try with_reducible rfl)
                      try simp only [List.getElem_toArray, List.getElem_cons_zero, List.getElem_cons_succ, Act.put, List.setIfInBounds_toArray, List.set_cons_zero, List.set_cons_succ]
                      refine wpAnyH_take (i := 6) (v := ?_) rfl (by kernel_rfl) (by kernel_rfl) (by kernel_rfl) (fun _ _ _ h => h) (Or.inl ⟨by rfl, ?_⟩) (by assumption) ?_
                      rotate_left 1
                      · (intro wS hSw; (try dsimp only at hSw); go_simp; try with_reducible rfl)
                      try simp only [List.getElem_toArray, List.getElem_cons_zero, List.getElem_cons_succ, Act.put, List.setIfInBounds_toArray, List.set_cons_zero, List.set_cons_succ]
                      refine wpAnyH_take (i := 7) (v := ?_) rfl (by kernel_rfl) (by kernel_rfl) (by kernel_rfl) (fun _ _ _ h => h) (Or.inl ⟨by rfl, ?_⟩) (by assumption) ?_
                      rotate_left 1
                      · (intro wS hSw; (try dsimp only at hSw); go_simp; try with_reducible rfl)
                      try simp only [List.getElem_toArray, List.getElem_cons_zero, List.getElem_cons_succ, Act.put, List.setIfInBounds_toArray, List.set_cons_zero, List.set_cons_succ]
                      refine wpAnyH_ready (rs := [8]) (by kernel_rfl) (by simp) ?_
                      refine AllReadyH.cons rfl (fun K hK => ?_) AllReadyH.nil
                      go_simp
                      refine (rhas_any Any1 _ lt z _ ((H1.out.below HW.out).below (Below.refl _ _).drew) (by omega)).mono ?_; rintro e w' ⟨rfl, rfl⟩
                      refine hK.out _ _ (hHeld) (fun hHeld => ?_)
                      clear hK K
                      try simp only [List.getElem_toArray, List.getElem_cons_zero, List.getElem_cons_succ, Act.put, List.setIfInBounds_toArray, List.set_cons_zero, List.set_cons_succ]
                      refine wpAnyH_done (by kernel_rfl) ?_ _
                      refine NoPanic.normal ?_
                      cases hh : hasB lt z
                      · have HHz := Lib.hid hh; clear hh
                        go_wp2_with fail
                        go_roundw
                        case rel => exact ⟨k + 1, by omega, by go_num, HBw.out.drew, Lib.hid fun j hj => by
                          by_cases e : j = k
                          · subst e; rw [HY.out]; exact HHz.out
                          · exact HH.out j (by omega)⟩
                        case measure => simp [intOf]; omega
                      · have HHz := Lib.hid hh; clear hh
                        go_wp2_with fail
                        go_ret
                        exact ⟨HF.out 5 (by rw [HCk.out, if_pos (List.any_eq_true.2 ⟨_, HM.out, HHz.out⟩)]), HW.out.drew⟩
                    · have hq2 : decide ((k : Int) < ln.length) = false := by simp; omega
                      have hany : (ln.any fun x => hasB lt x.2) = false := by
                        rw [List.any_eq_false]
                        intro y hy
                        obtain ⟨j, hj, rfl⟩ := List.getElem_of_mem hy
                        have := HH.out j (by omega)
                        rw [List.getD, List.getElem?_eq_getElem hj] at this
                        simpa using this
                      have HAny := Lib.hid hany; clear hany
                      go_wp2_with fail
                      go_ret
                      exact ⟨HF.out 0 (by rw [HCk.out, HAny.out]; simp), HW.out⟩
end Go.Proofs.YtfgoiojmbphmnaaGreatDoor
end
section
/- The reference of layer 2 (name): Normalise, Normal. -/
set_option linter.unusedSimpArgs false
set_option linter.unusedVariables false
set_option maxRecDepth 100000
namespace Go.Proofs.YtfgoiojmbphmnaaGreatDoor
open Go.RowKit
attribute [local go_sem] toList_mk mk_size
set_option maxHeartbeats 4000000 in
theorem rnorm_yes (S : Nat → Prop) (vt vn vs : Value) (r : RulesL) (s : ByteArray) (w : World) (h : RulesAt w S vt vn vs r) (hc : checkR r = 0) (hv : foldV s.data.toList = true) :
    Calls Tryz.prog 54 #[.agg #[vt, vn, vs], .string s] w fun e w' => e = .returned (pairV (nameN r s.data.toList)) ∧ Below w.heap.size w w' := by
  have hs : s.size ≤ 64 := by
    have := foldV_len hv
    have h2 : s.data.toList.length = s.size := by simp
    omega
  obtain ⟨⟨k1, k2, k3⟩, g1, g2, g3, g4⟩ := check_zero hc
  have G2 := Lib.hid g2
  have HR := Lib.hid h.any
  have HC := Lib.hid hc; have HV := Lib.hid hv
  clear h hc hv g1 g2 g3 g4
  have hfin : nameN r s.data.toList = (if 6 < (nameToks r (toks (foldL s.data.toList))).length ∨ 64 < (joinL (nameToks r (toks (foldL s.data.toList)))).length then ([], 1) else (joinL (nameToks r (toks (foldL s.data.toList))), 0)) := by
    unfold nameN; rw [if_pos HC.out, if_pos HV.out]
  have HF := Lib.hid hfin; clear hfin
  go_enter Tryz.func54, Tryz.ntmps54
  go_wp2_with fail
  refine (rncheck_any Any1 vt vn vs r _ (HR.out.below ((Below.refl _ _).alloc (Nat.le_refl _) _))).mono ?_
  rw [HC.out]
  rintro e w1 ⟨rfl, hb1⟩
  have X1 : w1.heap[w.heap.size]? = some (.cells #[vt, vn, vs] 31 (0, 0)) := blk_below hb1 (by simp) (blk_new rfl)
  have HX1 := Lib.hid X1
  have HB1 := Lib.hid (((Below.refl w.heap.size w).alloc (Nat.le_refl _) _).trans (hb1.mono (by simp)))
  clear X1 hb1
  go_wp2_with fail
  refine (rfold_yes s _ HV.out).mono ?_
  rintro e w2 ⟨rfl, hb2⟩
  have HX2 := Lib.hid (blk_below hb2 (lt_of_blk HX1.out) HX1.out)
  have HB2 := Lib.hid (HB1.out.trans (hb2.mono HB1.out.size))
  clear hb2 HX1 HB1
  go_wp2_with fail
  have hfl : (foldL s.data.toList).length ≤ 64 := by
    have := fold_len s.data.toList
    have h2 : s.data.toList.length = s.size := by simp
    omega
  obtain ⟨fl, hfl'⟩ : ∃ fl, foldL s.data.toList = fl := ⟨_, rfl⟩
  have hasc : ascii fl := hfl' ▸ fold_ascii _
  have HA := Lib.hid hasc
  rw [hfl'] at hfl HF ⊢
  clear hasc hfl'
  refine (rtokens_any ⟨fl.toArray⟩ _ (by rw [mk_size]; omega)).mono ?_
  rw [show (⟨fl.toArray⟩ : ByteArray).data.toList = fl by simp]
  rintro e w4 ⟨v4, rfl, ho⟩
  obtain ⟨aT, cT, rfl⟩ := own_slice ho.1
  have hb4 := ho.2
  have HX4 := Lib.hid (blk_below hb4 (lt_of_blk HX2.out) HX2.out)
  have HB4 := Lib.hid (HB2.out.trans (hb4.mono HB2.out.size))
  have hV := Vec.owns (S := Any1) (k := 1) (enc := encS) (fun _ => rfl) ho.1 (fun _ _ _ => trivial)
  have htl : ∀ t ∈ toks fl, t.length ≤ 64 := fun t ht => by have := toks_le fl [] t ht; simp at this; omega
  have htn : (toks fl).length ≤ 65 := by have := (toksA_len fl []).2.1; unfold toks; omega
  obtain ⟨T, hT⟩ : ∃ T, toks fl = T := ⟨_, rfl⟩
  rw [hT] at hV htl htn HF ⊢
  have HV4 := Lib.hid hV; have HTL := Lib.hid htl
  clear hb4 HX2 HB2 ho hV hT htl
  go_wp2_with fail
  go_loopw [10, 11] (fun v i wr => ∃ k : Nat, k ≤ T.length ∧ i = .int .i64 k ∧ OwnAt w4 v (nameToks r (T.take k)) wr) (fun _ i _ => T.length - (intOf i).toNat)
  case atStart => exact ⟨0, by omega, rfl, OwnAt.start w4⟩
  case round =>
    obtain ⟨k, hk, rfl, ho⟩ := hrel
    by_cases hlt : k < T.length
    · have hq : decide ((k : Int) < T.length) = true := by simp; omega
      have hi : (k : Int) < (T.length : Int) := by omega
      obtain ⟨b, off, rfl, _, hb, hcx⟩ := vec_cell1 HV4.out (by omega)
      have htk : T.take (k + 1) = T.take k ++ [T.getD k []] := by
        rw [List.take_succ_eq_append_getElem hlt, List.getD, List.getElem?_eq_getElem hlt]; rfl
      have hxl : (T.getD k []).length ≤ 64 := TL_get HTL.out k hlt
      have hcx' := hcx k hlt
      obtain ⟨x, hx⟩ : ∃ x, T.getD k [] = x := ⟨_, rfl⟩
      rw [hx] at htk hxl hcx'
      have c1 : wr.cell? ⟨b, off + k, none⟩ = some (strV x) := (ho.2.cell (p := ⟨b, off + k, none⟩) hb).trans hcx'
      have HT := Lib.hid htk; have HO := Lib.hid ho
      have hnl := nameToks_len r (T.take k)
      have hnl2 : (nameToks r (T.take k)).length < 1099511627776 := by have := List.length_take_le k T; omega
      clear hx htk hcx hcx' ho hnl
      go_wp2_with fail
      refine (rletters_any (mkS x) _ (by rw [show (mkS x).size = x.length from mk_size x]; omega)).mono ?_
      rw [show (mkS x).data.toList = x by simp [mkS]]
      rintro e w' ⟨rfl, rfl⟩
      have HO5 := HO
      have hX5 := blk_below (HO5.out.2) (lt_of_blk HX4.out) HX4.out
      clear HO
      have HNT := Lib.hid (show normTok r x = if (lettersL x).isEmpty || hasB r.titles (lettersL x) then [] else [canonL r.nicks (lettersL x)] from rfl)
      have hyl := letters_len x
      obtain ⟨y, hy⟩ : ∃ y, lettersL x = y := ⟨_, rfl⟩
      rw [hy] at HNT hyl ⊢
      clear hy
      have HX5 := Lib.hid hX5
      obtain ⟨p0, p1, p2⟩ := cells3 hX5
      clear hX5
      by_cases hye : y = []
      · have e1 : (y == []) = true := by simpa using hye
        have e2 : y.isEmpty = true := by simpa using hye
        have HN := Lib.hid (show normTok r x = [] by rw [HNT.out, e2]; rfl)
        clear hye HNT
        go_wp2_with fail
        go_roundw
        case rel => exact ⟨k + 1, by omega, by go_num, by rw [HT.out, nameToks_snoc, HN.out, List.append_nil]; exact HO5.out⟩
        case measure => simp [intOf]; omega
      · have e1 : (y == []) = false := by simpa using hye
        have e2 : y.isEmpty = false := by simpa using hye
        rw [e2, Bool.false_or] at HNT
        clear hye
        go_wp2_with fail
        refine (rdropped_any Any1 vt vn vs r.titles y _ (HR.out.1.below (HB4.out.trans (HO5.out.2.mono HB4.out.size))) (by omega)).mono ?_
        rintro e w6 ⟨rfl, hb6⟩
        have HO6 := Lib.hid (HO5.out.below hb6)
        have hX6 := blk_below hb6 (lt_of_blk HX5.out) HX5.out
        clear p0 p1 p2 HX5 hb6 HO5
        obtain ⟨p0, p1, p2⟩ := cells3 hX6
        have HX6 := Lib.hid hX6; clear hX6
        cases hd : hasB r.titles y
        · have HN := Lib.hid (show normTok r x = [canonL r.nicks y] by rw [HNT.out, hd]; rfl)
          clear hd HNT
          go_wp2_with fail
          refine (rcanonical_any Any1 vt vn vs r.nicks y _ (HR.out.2.1.below (HB4.out.trans (HO6.out.2.mono HB4.out.size))) (by omega)).mono ?_
          rintro e w7 ⟨rfl, hb7⟩
          have HO7 := Lib.hid (HO6.out.below hb7)
          clear p0 p1 p2 HX6 hb7 HO6
          obtain ⟨z, hz⟩ : ∃ z, canonL r.nicks y = z := ⟨_, rfl⟩
          rw [hz] at HN ⊢
          clear hz
          have hbz : w4.heap.size ≤ w7.heap.size := HO7.out.2.size
          go_wp2_with (at_builtin; refine wpList_append_new rfl _ _ 28 rfl w4.heap.size 9 1 16 (.string ⟨#[]⟩) Tryz.underlying28 infoS rfl (by decide) (by decide) _ _ _ rfl HO7.out.1 #[strV z] 1 rfl rfl (by simp [Value.oneCell']) hnl2 hbz ?_; intro v2 w8 ho8 hw8)
          go_roundw
          case rel => exact ⟨k + 1, by omega, by go_num, by rw [HT.out, nameToks_snoc, HN.out]; exact ⟨by rw [List.length_append, flat_snoc]; exact ho8, hw8 _ HO7.out.2⟩⟩
          case measure => simp [intOf]; omega
        · have HN := Lib.hid (show normTok r x = [] by rw [HNT.out, hd]; rfl)
          clear hd HNT
          go_wp2_with fail
          go_roundw
          case rel => exact ⟨k + 1, by omega, by go_num, by rw [HT.out, nameToks_snoc, HN.out, List.append_nil]; exact HO6.out⟩
          case measure => simp [intOf]; omega
    · have hq : decide ((k : Int) < T.length) = false := by simp; omega
      rw [List.take_of_length_le (by omega)] at ho
      have HV5 := Lib.hid (Vec.owns (S := Any1) (k := 1) (enc := encS) (fun _ => rfl) ho.1 (fun _ _ _ => trivial))
      have HW := Lib.hid (HB4.out.trans (ho.2.mono HB4.out.size))
      have hnl := nameToks_len r T
      have hjl := join_le (nameToks r T) (nameToks_le G2.out HTL.out)
      clear ho
      obtain ⟨N, hN⟩ : ∃ N, nameToks r T = N := ⟨_, rfl⟩
      rw [hN] at HV5 hnl hjl HF
      clear hN
      have hjb : (joinL N).length ≤ 1000000 := by
        have : N.length * 65 ≤ 65 * 65 := Nat.mul_le_mul_right 65 (by omega)
        omega
      clear hjl
      obtain ⟨av, cv, rfl⟩ := HV5.out.slice
      go_wp2_with fail
      refine (rjoin_any Any1 _ N _ HV5.out (by omega) (by omega)).mono ?_
      rintro e w' ⟨rfl, rfl⟩
      have HW9 := HW
      obtain ⟨J, hJ⟩ : ∃ J, joinL N = J := ⟨_, rfl⟩
      rw [hJ] at HF hjb ⊢
      clear hJ
      by_cases g1 : 6 < N.length
      · have d1 : decide ((6 : Int) < N.length) = true := by simp; omega
        rw [if_pos (.inl g1)] at HF
        go_wp2_with fail
        go_ret2
        exact ⟨by rw [HF.out]; rfl, HW9.out⟩
      · have d1 : decide ((6 : Int) < N.length) = false := by simp; omega
        by_cases g2 : 64 < J.length
        · have d2 : decide ((64 : Int) < J.length) = true := by simp; omega
          rw [if_pos (.inr g2)] at HF
          go_wp2_with fail
          go_ret2
          exact ⟨by rw [HF.out]; rfl, HW9.out⟩
        · have d2 : decide ((64 : Int) < J.length) = false := by simp; omega
          rw [if_neg (by omega)] at HF
          go_wp2_with fail
          go_ret2
          exact ⟨by rw [HF.out]; rfl, HW9.out⟩
set_option maxHeartbeats 1000000 in
theorem rnorm_no (S : Nat → Prop) (vt vn vs : Value) (r : RulesL) (s : ByteArray) (w : World) (h : RulesAt w S vt vn vs r) (hs : s.size ≤ 9223372036854775000) (hc : checkR r = 0) (hv : foldV s.data.toList = false) :
    Calls Tryz.prog 54 #[.agg #[vt, vn, vs], .string s] w fun e w' => e = .returned (pairV (nameN r s.data.toList)) ∧ Below w.heap.size w w' := by
  have HR := Lib.hid h.any
  have HC := Lib.hid hc; have HV := Lib.hid hv
  clear h hc hv
  have HF := Lib.hid (show nameN r s.data.toList = ([], 3) by unfold nameN; rw [if_pos HC.out, if_neg (by rw [HV.out]; simp)])
  go_enter Tryz.func54, Tryz.ntmps54
  go_wp2_with fail
  refine (rncheck_any Any1 vt vn vs r _ (HR.out.below ((Below.refl _ _).alloc (Nat.le_refl _) _))).mono ?_
  rw [HC.out]
  rintro e w1 ⟨rfl, hb1⟩
  have HB1 := Lib.hid (((Below.refl w.heap.size w).alloc (Nat.le_refl _) _).trans (hb1.mono (by simp)))
  clear hb1
  go_wp2_with fail
  refine (rfold_no s _ hs HV.out).mono ?_
  rintro e w2 ⟨rfl, hb2⟩
  have HB2 := Lib.hid (HB1.out.trans (hb2.mono HB1.out.size))
  clear hb2 HB1
  go_wp2_with fail
  go_ret2
  exact ⟨by rw [HF.out]; rfl, HB2.out⟩
set_option maxHeartbeats 1000000 in
theorem rnorm_bad (S : Nat → Prop) (vt vn vs : Value) (r : RulesL) (s : ByteArray) (w : World) (h : RulesAt w S vt vn vs r) (hc : checkR r ≠ 0) :
    Calls Tryz.prog 54 #[.agg #[vt, vn, vs], .string s] w fun e w' => e = .returned (pairV (nameN r s.data.toList)) ∧ Below w.heap.size w w' := by
  have HR := Lib.hid h.any
  have HF := Lib.hid (show nameN r s.data.toList = ([], checkR r) by unfold nameN; rw [if_neg hc])
  have hne : (checkR r != 0) = true := by simpa using hc
  clear h hc
  go_enter Tryz.func54, Tryz.ntmps54
  go_wp2_with fail
  refine (rncheck_any Any1 vt vn vs r _ (HR.out.below ((Below.refl _ _).alloc (Nat.le_refl _) _))).mono ?_
  obtain ⟨c, hcc⟩ : ∃ c, checkR r = c := ⟨_, rfl⟩
  rw [hcc] at hne HF ⊢
  clear hcc
  rintro e w1 ⟨rfl, hb1⟩
  have HB1 := Lib.hid (((Below.refl w.heap.size w).alloc (Nat.le_refl _) _).trans (hb1.mono (by simp)))
  clear hb1
  go_wp2_with fail
  go_ret2
  exact ⟨by rw [HF.out]; rfl, HB1.out⟩
theorem rnorm_any (S : Nat → Prop) (vt vn vs : Value) (r : RulesL) (s : ByteArray) (w : World) (h : RulesAt w S vt vn vs r) (hs : s.size ≤ 9223372036854775000) :
    Calls Tryz.prog 54 #[.agg #[vt, vn, vs], .string s] w fun e w' => e = .returned (pairV (nameN r s.data.toList)) ∧ Below w.heap.size w w' := by
  by_cases hc : checkR r = 0
  · cases hv : foldV s.data.toList with
    | true => exact rnorm_yes S vt vn vs r s w h hc hv
    | false => exact rnorm_no S vt vn vs r s w h hs hc hv
  · exact rnorm_bad S vt vn vs r s w h hc
set_option maxHeartbeats 1000000 in
theorem rnormal_any (S : Nat → Prop) (vt vn vs : Value) (r : RulesL) (s : ByteArray) (w : World) (h : RulesAt w S vt vn vs r) (hs : s.size ≤ 9223372036854775000) :
    Calls Tryz.prog 61 #[.agg #[vt, vn, vs], .string s] w fun e w' => e = .returned (.bool (isOwn (nameN r s.data.toList) s.data.toList)) ∧ Below w.heap.size w w' := by
  have HR := Lib.hid h.any; clear h
  have HS := Lib.hid (Lib.toList_data s)
  go_enter Tryz.func61, Tryz.ntmps61
  go_wp2_with fail
  refine (rnorm_any Any1 vt vn vs r s _ (HR.out.below ((Below.refl _ _).alloc (Nat.le_refl _) _)) hs).mono ?_
  obtain ⟨p, hp⟩ : ∃ p, nameN r s.data.toList = p := ⟨_, rfl⟩
  rw [hp]
  have HP := Lib.hid hp; clear hp
  obtain ⟨pl, pe⟩ := p
  unfold pairV
  rintro e w1 ⟨rfl, hb1⟩
  have HB1 := Lib.hid (((Below.refl w.heap.size w).alloc (Nat.le_refl _) _).trans (hb1.mono (by simp)))
  clear hb1
  cases he : (pe == 0)
  all_goals
    go_wp2_with fail
    go_ret
    refine ⟨ret_bool ?_, HB1.out⟩
    rw [HP.out]
    simp [isOwn, he, HS.out]
end Go.Proofs.YtfgoiojmbphmnaaGreatDoor
end
section
/- The reference of layer 5 (gram): Set. -/
set_option linter.unusedSimpArgs false
set_option linter.unusedVariables false
set_option maxRecDepth 100000
namespace Go.Proofs.YtfgoiojmbphmnaaGreatDoor
open Go.RowKit
attribute [local go_sem] toList_mk mk_size
theorem foldI_len (L : List (List UInt8)) : ∀ A : List (List UInt8), (L.foldl (fun a x => insL x a) A).length ≤ A.length + L.length := by
  induction L with
  | nil => intro A; simp
  | cons x L ih => intro A; have := ih (insL x A); have := insL_len x A; simp only [List.foldl_cons, List.length_cons]; omega
theorem encS_one : ∀ x : List UInt8, ∀ u ∈ encS x, u.oneCell' = true := by intro x u hu; simp [encS] at hu; subst hu; rfl
theorem r1_of {w w' : World} {bo oo m co : Nat} {M : List (List UInt8)} (hm : m ≤ M.length) (h : Vec w Any1 1 encS (.slice (some ⟨bo, oo, none⟩) M.length co) M) (hb : Below w.heap.size w w') : Reads w' 1 (.slice (some ⟨bo, oo, none⟩) m co) (M.take m).length ((M.take m).flatMap encS) := by
  have := Vec.reads_take (k := 1) (enc := encS) (fun _ => rfl) (h.below hb) m hm
  rwa [List.length_take, Nat.min_eq_left hm]
theorem r2_of {w w' : World} {bo oo m co : Nat} {M : List (List UInt8)} (hm : m ≤ M.length) (h : Vec w Any1 1 encS (.slice (some ⟨bo, oo, none⟩) M.length co) M) (hb : Below w.heap.size w w') : Reads w' 1 (.slice (if co = m then some ⟨bo, oo, none⟩ else some ⟨bo, oo + m, none⟩) (M.length - m) (co - m)) (M.drop m).length ((M.drop m).flatMap encS) := by
  have hc := h.len.2
  have := Vec.reads_drop (enc := encS) (fun _ => rfl) (h.below hb) m hm (co = m) (fun e => by omega) (co - m)
  rwa [List.length_drop]
theorem r2_z {w w' : World} {bo m co : Nat} {M : List (List UInt8)} (hm : m ≤ M.length) (h : Vec w Any1 1 encS (.slice (some ⟨bo, 0, none⟩) M.length co) M) (hb : Below w.heap.size w w') : Reads w' 1 (.slice (if co = m then some ⟨bo, 0, none⟩ else some ⟨bo, m, none⟩) (M.length - m) (co - m)) (M.drop m).length ((M.drop m).flatMap encS) := by
  have := r2_of hm h hb
  rwa [Nat.zero_add] at this
theorem r_nil {w w' : World} (hb : Below w.heap.size w w') : Reads w' 1 (.slice none 0 0) ([] : List (List UInt8)).length (([] : List (List UInt8)).flatMap encS) := ⟨none, 0, rfl, rfl, fun h => by simp at h⟩
theorem insL_at {x : List UInt8} {M : List (List UInt8)} (m : Nat) (hm : m ≤ M.length) (hA : ∀ q, q < m → M.getD q [] < x) (hB : m < M.length → ¬ M.getD m [] < x ∧ M.getD m [] ≠ x) : insL x M = M.take m ++ x :: M.drop m := by
  have h := insL_split x (M.take m) (M.drop m) (fun y hy => by
    obtain ⟨q, hq, rfl⟩ := List.mem_iff_getElem.1 hy
    rw [List.length_take] at hq
    have := hA q (by omega)
    rw [List.getD, List.getElem?_eq_getElem (by omega)] at this
    rw [List.getElem_take]; exact this) (fun y r he => by
    have hl : m < M.length := by
      have := congrArg List.length he; rw [List.length_drop, List.length_cons] at this; omega
    rw [List.drop_eq_getElem_cons hl] at he
    have := (hB hl).1
    rw [List.getD, List.getElem?_eq_getElem hl] at this
    cases he; exact this)
  rw [List.take_append_drop] at h
  rw [h]
  rw [if_neg]
  intro he
  rcases Nat.lt_or_ge m M.length with hl | hl
  · rw [List.drop_eq_getElem_cons hl, List.head?_cons] at he
    have := (hB hl).2
    rw [List.getD, List.getElem?_eq_getElem hl] at this
    exact this (Option.some.inj he)
  · rw [List.drop_eq_nil_of_le hl] at he; simp at he
theorem insL_dup {x : List UInt8} {M : List (List UInt8)} (m : Nat) (hl : m < M.length) (hA : ∀ q, q < m → M.getD q [] < x) (hB : M.getD m [] = x) : insL x M = M := by
  have h := insL_split x (M.take m) (M.drop m) (fun y hy => by
    obtain ⟨q, hq, rfl⟩ := List.mem_iff_getElem.1 hy
    rw [List.length_take] at hq
    have := hA q (by omega)
    rw [List.getD, List.getElem?_eq_getElem (by omega)] at this
    rw [List.getElem_take]; exact this) (fun y r he => by
    rw [List.drop_eq_getElem_cons hl] at he
    rw [List.getD, List.getElem?_eq_getElem hl] at hB
    cases he
    have e : M[m] = x := hB
    rw [e]; exact List.lt_irrefl x)
  rw [List.take_append_drop] at h
  rw [h, if_pos]
  rw [List.drop_eq_getElem_cons hl, List.head?_cons]
  rw [List.getD, List.getElem?_eq_getElem hl] at hB
  exact congrArg some hB
set_option maxHeartbeats 8000000 in
theorem rset_any (S : Nat → Prop) (v : Value) (L : List (List UInt8)) (w : World) (h : Vec w S 1 encS v L) (hn : L.length ≤ 1000000) :
    Calls Tryz.prog 100 #[v] w fun e w' => ∃ u, e = .returned u ∧ OwnAt w u (foldI L) w' := by
  obtain ⟨a, cap, rfl⟩ := h.slice
  have HV := Lib.hid h; clear h
  go_enter Tryz.func100, Tryz.ntmps100
  go_wp2_with fail
  go_loopw [3, 4] (fun o i wr => ∃ k : Nat, k ≤ L.length ∧ i = .int .i64 k ∧ OwnAt w o (foldI (L.take k)) wr) (fun _ i _ => L.length - (intOf i).toNat)
  case atStart => exact ⟨0, by omega, rfl, ⟨rfl, .inl ⟨rfl, rfl⟩⟩, Below.refl _ _⟩
  case round =>
    obtain ⟨k, hk, rfl, hO⟩ := hrel
    obtain ⟨wu, rfl⟩ : ∃ wu : World, wu = wr := ⟨_, rfl⟩
    obtain ⟨M, hM⟩ : ∃ M, foldI (L.take k) = M := ⟨_, rfl⟩
    rw [hM] at hO
    have hml : M.length ≤ k := by rw [← hM]; have := foldI_len (L.take k) []; have := List.length_take_le k L; simp only [List.length_nil] at *; unfold foldI; omega
    have HM := Lib.hid hM; clear hM
    have hvm := Vec.owns (S := Any1) (k := 1) (enc := encS) (L := M) (fun _ => rfl) hO.1 (fun _ _ _ => trivial)
    have hform := OwnV.form hO
    have HVM := Lib.hid hvm; clear hvm
    have HO := Lib.hid hO; clear hO
    by_cases hlt : k < L.length
    · have hq : decide ((k : Int) < L.length) = true := by simp; omega
      obtain ⟨b, off, rfl, _, hb, hc⟩ := vec_cell1 HV.out (by omega)
      have cx := (HO.out.2.cell (p := ⟨b, off + k, none⟩) hb).trans (hc k hlt)
      obtain ⟨x, hx⟩ : ∃ x, L.getD k [] = x := ⟨_, rfl⟩
      rw [hx] at cx
      have HX := Lib.hid hx
      have CXH := Lib.hid (show w.cell? ⟨b, off + k, none⟩ = some (strV x) by rw [← hx]; exact hc k hlt)
      have hi : (k : Int) < (L.length : Int) := by omega
      clear hc hx
      rcases hform with ⟨rfl, rfl⟩ | ⟨bo, co, rfl, hco, hcm, hbo⟩
      · go_wp2_with fail
        go_loopw [5] (fun j wr => j = .int .i64 (0 : Nat) ∧ Below wu.heap.size wu wr) (fun j _ => 0)
        case atStart => exact ⟨rfl, Below.refl _ _⟩
        case round =>
          obtain ⟨rfl, hbi⟩ := hrel
          have HBI := Lib.hid hbi
          have zu := HO.out.2.size
          have cx2 := (hbi.cell (p := ⟨b, off + k, none⟩) (by show b < _; omega)).trans cx
          clear hbi
          go_wp2_with fail
          go_quiet (fail)
          go_wp2_with fail
          go_quiet (fail)
          go_wp2_with fail
          refine wp_world (fun wN hN => ?_)
          have HBu := Lib.hid (show Below wu.heap.size wu wN by rw [hN]; first | exact below_drewN (below_drewN HBI.out _) _ | exact below_drewN HBI.out _ | exact below_drewN (below_drewN (below_drewN HBI.out _) _) _)
          have HBN := Lib.hid (HO.out.2.trans (HBu.out.mono HO.out.2.size))
          have cx3 := (HBN.out.cell (p := ⟨b, off + k, none⟩) hb).trans CXH.out
          have HVN := Lib.hid (HVM.out.below HBu.out)
          have zb : b < wN.heap.size := by have := HBN.out.size; omega
          clear hN cx2 cx
          refine wp_region_noPanic ?_
          refine wp_region_k (by kernel_rfl) (fun w' => w'.cell? ⟨b, off + k, none⟩ = some (strV x)) 9 ((by simpa using cx3)) (fun hHeld => ?_)
          refine wpAnyK_take0 (i := 0) (v := ?_) rfl (by kernel_rfl) (by kernel_rfl) (by kernel_rfl) (by decide) (fun _ _ _ h => h) (Or.inl ⟨by rfl, ?_⟩) (by first | exact fun _ => by assumption | exact fun h => absurd h (by decide)) ?_
          rotate_left 1
          · (intro wS hSw; (try dsimp only at hSw); go_simp; try with_reducible rfl)
          try simp only [List.getElem_toArray, List.getElem_cons_zero, List.getElem_cons_succ, Act.put, List.setIfInBounds_toArray, List.set_cons_zero, List.set_cons_succ]
          refine wpAnyK_take0 (i := 1) (v := ?_) rfl (by kernel_rfl) (by kernel_rfl) (by kernel_rfl) (by decide) (fun _ _ _ h => h) (Or.inl ⟨by rfl, ?_⟩) (by first | exact fun _ => by assumption | exact fun h => absurd h (by decide)) ?_
          rotate_left 1
          · (intro wS hSw; (try dsimp only at hSw); go_simp; try with_reducible rfl)
          try simp only [List.getElem_toArray, List.getElem_cons_zero, List.getElem_cons_succ, Act.put, List.setIfInBounds_toArray, List.set_cons_zero, List.set_cons_succ]
          refine wpAnyK_take0 (i := 10) (v := ?_) rfl (by kernel_rfl) (by kernel_rfl) (by kernel_rfl) (by decide) (fun _ _ _ h => h) (Or.inl ⟨by rfl, ?_⟩) (by first | exact fun _ => by assumption | exact fun h => absurd h (by decide)) ?_
          rotate_left 1
          · (intro wS hSw; (try dsimp only at hSw); go_simp; try with_reducible rfl)
          try simp only [List.getElem_toArray, List.getElem_cons_zero, List.getElem_cons_succ, Act.put, List.setIfInBounds_toArray, List.set_cons_zero, List.set_cons_succ]
          refine wpAnyK_take0 (i := 11) (v := ?_) rfl (by kernel_rfl) (by kernel_rfl) (by kernel_rfl) (by decide) (fun _ _ _ h => h) (Or.inl ⟨by rfl, ?_⟩) (by first | exact fun _ => by assumption | exact fun h => absurd h (by decide)) ?_
          rotate_left 1
          · (intro wS hSw; (try dsimp only at hSw); go_simp; try with_reducible rfl)
          try simp only [List.getElem_toArray, List.getElem_cons_zero, List.getElem_cons_succ, Act.put, List.setIfInBounds_toArray, List.set_cons_zero, List.set_cons_succ]
          refine wpAnyK_take (i := 4) (v := ?_) rfl (by kernel_rfl) (by kernel_rfl) (by kernel_rfl) (by kernel_rfl) (fun _ _ _ h => h) (Or.inl ⟨by rfl, ?_⟩) (by assumption) ?_
          rotate_left 1
          · (intro wS hSw; (try dsimp only at hSw); go_simp; try with_reducible rfl)
          try simp only [List.getElem_toArray, List.getElem_cons_zero, List.getElem_cons_succ, Act.put, List.setIfInBounds_toArray, List.set_cons_zero, List.set_cons_succ]
          refine wpAnyK_take (i := 5) (v := ?_) rfl (by kernel_rfl) (by kernel_rfl) (by kernel_rfl) (by kernel_rfl) (fun _ _ _ h => h) (Or.inl ⟨by rfl, ?_⟩) (by assumption) ?_
          rotate_left 1
          · (intro wS hSw; (try dsimp only at hSw); go_simp; try with_reducible rfl)
          try simp only [List.getElem_toArray, List.getElem_cons_zero, List.getElem_cons_succ, Act.put, List.setIfInBounds_toArray, List.set_cons_zero, List.set_cons_succ]
          refine wpAnyK_take (i := 6) (v := ?_) rfl (by kernel_rfl) (by kernel_rfl) (by kernel_rfl) (by kernel_rfl) (fun _ _ _ h => h) (Or.inl ⟨by rfl, ?_⟩) (by assumption) ?_
          rotate_left 1
          · (intro wS hSw; (try dsimp only at hSw); go_simp; try with_reducible rfl)
          try simp only [List.getElem_toArray, List.getElem_cons_zero, List.getElem_cons_succ, Act.put, List.setIfInBounds_toArray, List.set_cons_zero, List.set_cons_succ]
          refine wpAnyK_take (i := 7) (v := ?_) rfl (by kernel_rfl) (by kernel_rfl) (by kernel_rfl) (by kernel_rfl) (fun _ _ _ h => h) (Or.inl ⟨by rfl, ?_⟩) (by assumption) ?_
          rotate_left 1
          · (intro wS hSw; (try dsimp only at hSw); go_simp; try with_reducible rfl)
          try simp only [List.getElem_toArray, List.getElem_cons_zero, List.getElem_cons_succ, Act.put, List.setIfInBounds_toArray, List.set_cons_zero, List.set_cons_succ]
          refine wpAnyK_take0 (i := 2) (v := ?_) rfl (by kernel_rfl) (by kernel_rfl) (by kernel_rfl) (by decide) (fun _ _ _ h => h) (Or.inl ⟨by rfl, ?_⟩) (by first | exact fun _ => by assumption | exact fun h => absurd h (by decide)) ?_
          rotate_left 1
          · (intro wS hSw; (try dsimp only at hSw); go_simp; try with_reducible rfl)
          try simp only [List.getElem_toArray, List.getElem_cons_zero, List.getElem_cons_succ, Act.put, List.setIfInBounds_toArray, List.set_cons_zero, List.set_cons_succ]
          refine wpAnyK_take0 (i := 12) (v := ?_) rfl (by kernel_rfl) (by kernel_rfl) (by kernel_rfl) (by decide) (fun _ _ _ h => h) (Or.inl ⟨by rfl, ?_⟩) (by first | exact fun _ => by assumption | exact fun h => absurd h (by decide)) ?_
          rotate_left 1
          · (intro wS hSw; (try dsimp only at hSw); go_simp; try with_reducible rfl)
          try simp only [List.getElem_toArray, List.getElem_cons_zero, List.getElem_cons_succ, Act.put, List.setIfInBounds_toArray, List.set_cons_zero, List.set_cons_succ]
          have bD : Below wN.heap.size wN wN.drew := (Below.refl _ _).drew
          refine wpAnyK_ready (rs := [3, 8]) (by kernel_rfl) (by simp) ?_
          refine AllReadyK.cons rfl (fun K hK => ?_) (AllReadyK.cons rfl (fun K hK => ?_) AllReadyK.nil)
          focus
            refine wp_append_v (.const (.slice none 0 0)) (.tmp 46) 28 (by rfl) 9 (.string ⟨#[]⟩) 1 16 encS (fun _ => rfl) encS_one Tryz.underlying28 infoS rfl (by decide) (by decide) (w0 := wN) (v := .slice none 0 0) (A := []) (B := ([] : List (List UInt8))) (by rfl) (OwnV.nil bD) (by rfl) (r_nil bD) (by first | omega | (simp; done) | (simp; omega)) ?_
            intro v1 w3 ho1 _ hz1
            rw [List.nil_append] at ho1
            refine shutK hK ((ho1.2.cell (p := ⟨b, off + k, none⟩) zb).trans cx3) (fun hHeld => ?_)
            clear hK K
            try simp only [List.getElem_toArray, List.getElem_cons_zero, List.getElem_cons_succ, Act.put, List.setIfInBounds_toArray, List.set_cons_zero, List.set_cons_succ]
            have bB := (Below.refl w3.heap.size w3).alloc (Nat.le_refl _) (.cells #[strV x] 9)
            refine wpAnyK_ready (rs := [8]) (by kernel_rfl) (by simp) ?_
            refine AllReadyK.cons rfl (fun K hK => ?_) AllReadyK.nil
            go_simp
            skip
            refine shutK hK (((ho1.2.trans (bB.mono ho1.2.size)).cell (p := ⟨b, off + k, none⟩) zb).trans cx3) (fun hHeld => ?_)
            clear hK K
            try simp only [List.getElem_toArray, List.getElem_cons_zero, List.getElem_cons_succ, Act.put, List.setIfInBounds_toArray, List.set_cons_zero, List.set_cons_succ]
            have ho2 := OwnV.below ho1 bB
            have hg2 : (w3.alloc (.cells #[strV x] 9)).heap[w3.heap.size]? = some (.cells #[strV x] 9 (0, 0)) := blk_new rfl
            clear ho1 bB hz1
          rotate_left 1
          focus
            go_simp
            have bB := bD.alloc (Nat.le_refl _) (.cells #[strV x] 9)
            have hg0 : (wN.drew.alloc (.cells #[strV x] 9)).heap[wN.heap.size]? = some (.cells #[strV x] 9 (0, 0)) := blk_new rfl
            refine shutK hK ((bB.cell (p := ⟨b, off + k, none⟩) zb).trans cx3) (fun hHeld => ?_)
            clear hK K
            try simp only [List.getElem_toArray, List.getElem_cons_zero, List.getElem_cons_succ, Act.put, List.setIfInBounds_toArray, List.set_cons_zero, List.set_cons_succ]
            refine wpAnyK_ready (rs := [3]) (by kernel_rfl) (by simp) ?_
            refine AllReadyK.cons rfl (fun K hK => ?_) AllReadyK.nil
            refine wp_append_v (.const (.slice none 0 0)) (.tmp 46) 28 (by rfl) 9 (.string ⟨#[]⟩) 1 16 encS (fun _ => rfl) encS_one Tryz.underlying28 infoS rfl (by decide) (by decide) (w0 := wN) (v := .slice none 0 0) (A := []) (B := ([] : List (List UInt8))) (by rfl) (OwnV.nil bB) (by rfl) (r_nil bB) (by first | omega | (simp; done) | (simp; omega)) ?_; intro v1 w3 ho2 hk2 hz2; rw [List.nil_append] at ho2
            refine shutK hK ((ho2.2.cell (p := ⟨b, off + k, none⟩) zb).trans cx3) (fun hHeld => ?_)
            clear hK K
            try simp only [List.getElem_toArray, List.getElem_cons_zero, List.getElem_cons_succ, Act.put, List.setIfInBounds_toArray, List.set_cons_zero, List.set_cons_succ]
            have hg2 := hk2 _ _ (by simp [Value.ownBlock]) hg0
            clear hg0 bB hk2 hz2
          all_goals
            have hr2 : Reads _ 1 (.slice (some ⟨_, 0, none⟩) 1 1) [x].length ([x].flatMap encS) := reads_block hg2 rfl
            refine wpAnyK_ready (rs := [9]) (by kernel_rfl) (by simp) ?_
            refine AllReadyK.cons rfl (fun K hK => ?_) AllReadyK.nil
            refine wp_append_v (.tmp 47) (.tmp 52) 28 (by rfl) 9 (.string ⟨#[]⟩) 1 16 encS (fun _ => rfl) encS_one Tryz.underlying28 infoS rfl (by decide) (by decide) (w0 := wN) (v := v1) (A := ([] : List (List UInt8))) (B := [x]) (by rfl) (ho2) (by rfl) (hr2) (by first | omega | (simp; done) | (simp; omega)) ?_; intro v2 w5 ho3 _ _
            refine shutK_off hK (by decide) ?_
            clear hK K
            try simp only [List.getElem_toArray, List.getElem_cons_zero, List.getElem_cons_succ, Act.put, List.setIfInBounds_toArray, List.set_cons_zero, List.set_cons_succ]
            refine wpAnyK_ready (rs := [13]) (by kernel_rfl) (by simp) ?_
            refine AllReadyK.cons rfl (fun K hK => ?_) AllReadyK.nil
            refine wp_append_v (.tmp 53) (.tmp 56) 28 (by rfl) 9 (.string ⟨#[]⟩) 1 16 encS (fun _ => rfl) encS_one Tryz.underlying28 infoS rfl (by decide) (by decide) (w0 := wN) (v := v2) (A := ([] : List (List UInt8)) ++ [x]) (B := ([] : List (List UInt8))) (by rfl) (ho3) (by rfl) (r_nil ho3.2) (by first | omega | (simp; done) | (simp; omega)) ?_; intro v3 w6 ho4 _ _
            refine shutK_off hK (by decide) ?_
            clear hK K
            try simp only [List.getElem_toArray, List.getElem_cons_zero, List.getElem_cons_succ, Act.put, List.setIfInBounds_toArray, List.set_cons_zero, List.set_cons_succ]
            have HF := Lib.hid (ho4.rebase HBN.out)
            clear ho4 ho3 ho2 hg2 hr2 bD
            refine wpAnyK_ready (rs := [14]) (by kernel_rfl) (by simp) ?_
            refine AllReadyK.cons rfl (fun K hK => ?_) AllReadyK.nil
            go_simp
            skip
            refine shutK_off hK (by decide) ?_
            clear hK K
            try simp only [List.getElem_toArray, List.getElem_cons_zero, List.getElem_cons_succ, Act.put, List.setIfInBounds_toArray, List.set_cons_zero, List.set_cons_succ]
            refine wpAnyK_done (by kernel_rfl) ?_ _
            refine NoPanic.normal ?_
            go_wp2_with fail
            go_roundw
            case rel => exact ⟨k + 1, by omega, by go_num, by
              have e := foldI_take L k hlt
              have hx' : L[k] = x := by rw [← HX.out, List.getD, List.getElem?_eq_getElem hlt]; rfl
              rw [e, HM.out, hx', (show insL x [] = List.take 0 [] ++ x :: List.drop 0 [] from rfl), List.append_cons]
              exact HF.out⟩
            case measure => simp [intOf]; omega
      · have hcm' : co ≤ 9223372036854775807 := by unfold maxLen at hcm; omega
        clear hcm
        go_wp2_with fail
        go_loopw [5] (fun j wr => ∃ m : Nat, m ≤ M.length ∧ j = .int .i64 m ∧ Below wu.heap.size wu wr ∧ Hid (∀ q, q < m → M.getD q [] < x)) (fun j _ => M.length - (intOf j).toNat)
        case atStart => exact ⟨0, by omega, rfl, Below.refl _ _, Lib.hid fun q hq => by omega⟩
        case round =>
          obtain ⟨m, hm, rfl, hbi, hA⟩ := hrel
          have HBI := Lib.hid hbi
          have zu := HO.out.2.size
          have cx2 := (hbi.cell (p := ⟨b, off + k, none⟩) (by show b < _; omega)).trans cx
          by_cases hml2 : m < M.length
          · have hq2 : decide ((m : Int) < M.length) = true := by simp; omega
            have hcy : wu.cell? ⟨bo, 0 + m, none⟩ = some (strV (M.getD m [])) := by
              obtain ⟨bo', oo', he, _, _, hco⟩ := vec_cell1 HVM.out (by omega)
              cases he; exact hco m hml2
            have cy := (hbi.cell (p := ⟨bo, 0 + m, none⟩) hbo).trans hcy
            rw [Nat.zero_add] at cy
            obtain ⟨y, hy⟩ : ∃ y, M.getD m [] = y := ⟨_, rfl⟩
            rw [hy] at cy
            have HY := Lib.hid hy
            have hi2 : (m : Int) < (M.length : Int) := by omega
            have hlt3 : Op.bytesLess y x = decide (y < x) := bytesLess_eq y x
            clear hcy hy hbi
            by_cases hyx : y < x
            · have hd : Op.bytesLess y x = true := by rw [hlt3]; simpa using hyx
              have HYX := Lib.hid hyx
              clear hlt3 hyx
              go_wp2_with fail
              go_quiet (fail)
              go_wp2_with fail
              go_roundw
              case rel => exact ⟨m + 1, by omega, by go_num, below_drewN HBI.out _, Lib.hid fun q hq => by
                by_cases e : q = m
                · subst e; rw [HY.out]; exact HYX.out
                · exact hA.out q (by omega)⟩
              case measure => simp [intOf]; omega
            · have hd : Op.bytesLess y x = false := by rw [hlt3]; simpa using hyx
              have HYX := Lib.hid hyx
              clear hlt3 hyx
              go_wp2_with fail
              go_quiet (fail)
              go_wp2_with fail
              by_cases hxy : y = x
              · have hd2 : (y == x) = true := by simpa using hxy
                have HXY := Lib.hid hxy
                clear hxy
                go_quiet (fail)
                go_wp2_with fail
                go_roundw
                case rel => exact ⟨k + 1, by omega, by go_num, by
                  have e := foldI_take L k hlt
                  have hx' : L[k] = x := by rw [← HX.out, List.getD, List.getElem?_eq_getElem hlt]; rfl
                  rw [e, HM.out, hx', insL_dup m hml2 hA.out (by rw [HY.out, HXY.out])]
                  exact ⟨own_below HO.out.1 (below_drewN HBI.out _), HO.out.2.trans ((below_drewN HBI.out _).mono HO.out.2.size)⟩⟩
                case measure => simp [intOf]; omega
              · have hd2 : (y == x) = false := by simpa using hxy
                have HXY := Lib.hid hxy
                clear hxy
                go_quiet (fail)
                go_wp2_with fail
                refine wp_world (fun wN hN => ?_)
                have HBu := Lib.hid (show Below wu.heap.size wu wN by rw [hN]; first | exact below_drewN (below_drewN HBI.out _) _ | exact below_drewN HBI.out _ | exact below_drewN (below_drewN (below_drewN HBI.out _) _) _)
                have HBN := Lib.hid (HO.out.2.trans (HBu.out.mono HO.out.2.size))
                have cx3 := (HBN.out.cell (p := ⟨b, off + k, none⟩) hb).trans CXH.out
                have HVN := Lib.hid (HVM.out.below HBu.out)
                have zb : b < wN.heap.size := by have := HBN.out.size; omega
                clear hN cx2 cx
                have hmc : (m : Int) ≤ (co : Int) := by omega
                refine wp_region_noPanic ?_
                refine wp_region_k (by kernel_rfl) (fun w' => w'.cell? ⟨b, off + k, none⟩ = some (strV x)) 9 ((by simpa using cx3)) (fun hHeld => ?_)
                refine wpAnyK_take0 (i := 0) (v := ?_) rfl (by kernel_rfl) (by kernel_rfl) (by kernel_rfl) (by decide) (fun _ _ _ h => h) (Or.inl ⟨by rfl, ?_⟩) (by first | exact fun _ => by assumption | exact fun h => absurd h (by decide)) ?_
                rotate_left 1
                · (intro wS hSw; (try dsimp only at hSw); go_simp; try with_reducible rfl)
                try simp only [List.getElem_toArray, List.getElem_cons_zero, List.getElem_cons_succ, Act.put, List.setIfInBounds_toArray, List.set_cons_zero, List.set_cons_succ]
                refine wpAnyK_take0 (i := 1) (v := ?_) rfl (by kernel_rfl) (by kernel_rfl) (by kernel_rfl) (by decide) (fun _ _ _ h => h) (Or.inl ⟨by rfl, ?_⟩) (by first | exact fun _ => by assumption | exact fun h => absurd h (by decide)) ?_
                rotate_left 1
                · (intro wS hSw; (try dsimp only at hSw); go_simp; try with_reducible rfl)
                try simp only [List.getElem_toArray, List.getElem_cons_zero, List.getElem_cons_succ, Act.put, List.setIfInBounds_toArray, List.set_cons_zero, List.set_cons_succ]
                refine wpAnyK_take0 (i := 10) (v := ?_) rfl (by kernel_rfl) (by kernel_rfl) (by kernel_rfl) (by decide) (fun _ _ _ h => h) (Or.inl ⟨by rfl, ?_⟩) (by first | exact fun _ => by assumption | exact fun h => absurd h (by decide)) ?_
                rotate_left 1
                · (intro wS hSw; (try dsimp only at hSw); go_simp; try with_reducible rfl)
                try simp only [List.getElem_toArray, List.getElem_cons_zero, List.getElem_cons_succ, Act.put, List.setIfInBounds_toArray, List.set_cons_zero, List.set_cons_succ]
                refine wpAnyK_take0 (i := 11) (v := ?_) rfl (by kernel_rfl) (by kernel_rfl) (by kernel_rfl) (by decide) (fun _ _ _ h => h) (Or.inl ⟨by rfl, ?_⟩) (by first | exact fun _ => by assumption | exact fun h => absurd h (by decide)) ?_
                rotate_left 1
                · (intro wS hSw; (try dsimp only at hSw); go_simp; try with_reducible rfl)
                try simp only [List.getElem_toArray, List.getElem_cons_zero, List.getElem_cons_succ, Act.put, List.setIfInBounds_toArray, List.set_cons_zero, List.set_cons_succ]
                refine wpAnyK_take (i := 4) (v := ?_) rfl (by kernel_rfl) (by kernel_rfl) (by kernel_rfl) (by kernel_rfl) (fun _ _ _ h => h) (Or.inl ⟨by rfl, ?_⟩) (by assumption) ?_
                rotate_left 1
                · (intro wS hSw; (try dsimp only at hSw); go_simp; try with_reducible rfl)
                try simp only [List.getElem_toArray, List.getElem_cons_zero, List.getElem_cons_succ, Act.put, List.setIfInBounds_toArray, List.set_cons_zero, List.set_cons_succ]
                refine wpAnyK_take (i := 5) (v := ?_) rfl (by kernel_rfl) (by kernel_rfl) (by kernel_rfl) (by kernel_rfl) (fun _ _ _ h => h) (Or.inl ⟨by rfl, ?_⟩) (by assumption) ?_
                rotate_left 1
                · (intro wS hSw; (try dsimp only at hSw); go_simp; try with_reducible rfl)
                try simp only [List.getElem_toArray, List.getElem_cons_zero, List.getElem_cons_succ, Act.put, List.setIfInBounds_toArray, List.set_cons_zero, List.set_cons_succ]
                refine wpAnyK_take (i := 6) (v := ?_) rfl (by kernel_rfl) (by kernel_rfl) (by kernel_rfl) (by kernel_rfl) (fun _ _ _ h => h) (Or.inl ⟨by rfl, ?_⟩) (by assumption) ?_
                rotate_left 1
                · (intro wS hSw; (try dsimp only at hSw); go_simp; try with_reducible rfl)
                try simp only [List.getElem_toArray, List.getElem_cons_zero, List.getElem_cons_succ, Act.put, List.setIfInBounds_toArray, List.set_cons_zero, List.set_cons_succ]
                refine wpAnyK_take (i := 7) (v := ?_) rfl (by kernel_rfl) (by kernel_rfl) (by kernel_rfl) (by kernel_rfl) (fun _ _ _ h => h) (Or.inl ⟨by rfl, ?_⟩) (by assumption) ?_
                rotate_left 1
                · (intro wS hSw; (try dsimp only at hSw); go_simp; try with_reducible rfl)
                try simp only [List.getElem_toArray, List.getElem_cons_zero, List.getElem_cons_succ, Act.put, List.setIfInBounds_toArray, List.set_cons_zero, List.set_cons_succ]
                refine wpAnyK_take0 (i := 2) (v := ?_) rfl (by kernel_rfl) (by kernel_rfl) (by kernel_rfl) (by decide) (fun _ _ _ h => h) (Or.inl ⟨by rfl, ?_⟩) (by first | exact fun _ => by assumption | exact fun h => absurd h (by decide)) ?_
                rotate_left 1
                · (intro wS hSw; (try dsimp only at hSw); go_simp; try with_reducible rfl)
                try simp only [List.getElem_toArray, List.getElem_cons_zero, List.getElem_cons_succ, Act.put, List.setIfInBounds_toArray, List.set_cons_zero, List.set_cons_succ]
                refine wpAnyK_take0 (i := 12) (v := ?_) rfl (by kernel_rfl) (by kernel_rfl) (by kernel_rfl) (by decide) (fun _ _ _ h => h) (Or.inl ⟨by rfl, ?_⟩) (by first | exact fun _ => by assumption | exact fun h => absurd h (by decide)) ?_
                rotate_left 1
                · (intro wS hSw; (try dsimp only at hSw); go_simp; try with_reducible rfl)
                try simp only [List.getElem_toArray, List.getElem_cons_zero, List.getElem_cons_succ, Act.put, List.setIfInBounds_toArray, List.set_cons_zero, List.set_cons_succ]
                have bD : Below wN.heap.size wN wN.drew := (Below.refl _ _).drew
                refine wpAnyK_ready (rs := [3, 8]) (by kernel_rfl) (by simp) ?_
                refine AllReadyK.cons rfl (fun K hK => ?_) (AllReadyK.cons rfl (fun K hK => ?_) AllReadyK.nil)
                focus
                  refine wp_append_v (.const (.slice none 0 0)) (.tmp 46) 28 (by rfl) 9 (.string ⟨#[]⟩) 1 16 encS (fun _ => rfl) encS_one Tryz.underlying28 infoS rfl (by decide) (by decide) (w0 := wN) (v := .slice none 0 0) (A := []) (B := M.take m) (by rfl) (OwnV.nil bD) (by rfl) (r1_of hm HVN.out bD) (by first | omega | (simp; done) | (simp; omega)) ?_
                  intro v1 w3 ho1 _ hz1
                  rw [List.nil_append] at ho1
                  refine shutK hK ((ho1.2.cell (p := ⟨b, off + k, none⟩) zb).trans cx3) (fun hHeld => ?_)
                  clear hK K
                  try simp only [List.getElem_toArray, List.getElem_cons_zero, List.getElem_cons_succ, Act.put, List.setIfInBounds_toArray, List.set_cons_zero, List.set_cons_succ]
                  have bB := (Below.refl w3.heap.size w3).alloc (Nat.le_refl _) (.cells #[strV x] 9)
                  refine wpAnyK_ready (rs := [8]) (by kernel_rfl) (by simp) ?_
                  refine AllReadyK.cons rfl (fun K hK => ?_) AllReadyK.nil
                  go_simp
                  skip
                  refine shutK hK (((ho1.2.trans (bB.mono ho1.2.size)).cell (p := ⟨b, off + k, none⟩) zb).trans cx3) (fun hHeld => ?_)
                  clear hK K
                  try simp only [List.getElem_toArray, List.getElem_cons_zero, List.getElem_cons_succ, Act.put, List.setIfInBounds_toArray, List.set_cons_zero, List.set_cons_succ]
                  have ho2 := OwnV.below ho1 bB
                  have hg2 : (w3.alloc (.cells #[strV x] 9)).heap[w3.heap.size]? = some (.cells #[strV x] 9 (0, 0)) := blk_new rfl
                  clear ho1 bB hz1
                rotate_left 1
                focus
                  go_simp
                  have bB := bD.alloc (Nat.le_refl _) (.cells #[strV x] 9)
                  have hg0 : (wN.drew.alloc (.cells #[strV x] 9)).heap[wN.heap.size]? = some (.cells #[strV x] 9 (0, 0)) := blk_new rfl
                  refine shutK hK ((bB.cell (p := ⟨b, off + k, none⟩) zb).trans cx3) (fun hHeld => ?_)
                  clear hK K
                  try simp only [List.getElem_toArray, List.getElem_cons_zero, List.getElem_cons_succ, Act.put, List.setIfInBounds_toArray, List.set_cons_zero, List.set_cons_succ]
                  refine wpAnyK_ready (rs := [3]) (by kernel_rfl) (by simp) ?_
                  refine AllReadyK.cons rfl (fun K hK => ?_) AllReadyK.nil
                  refine wp_append_v (.const (.slice none 0 0)) (.tmp 46) 28 (by rfl) 9 (.string ⟨#[]⟩) 1 16 encS (fun _ => rfl) encS_one Tryz.underlying28 infoS rfl (by decide) (by decide) (w0 := wN) (v := .slice none 0 0) (A := []) (B := M.take m) (by rfl) (OwnV.nil bB) (by rfl) (r1_of hm HVN.out bB) (by first | omega | (simp; done) | (simp; omega)) ?_; intro v1 w3 ho2 hk2 hz2; rw [List.nil_append] at ho2
                  refine shutK hK ((ho2.2.cell (p := ⟨b, off + k, none⟩) zb).trans cx3) (fun hHeld => ?_)
                  clear hK K
                  try simp only [List.getElem_toArray, List.getElem_cons_zero, List.getElem_cons_succ, Act.put, List.setIfInBounds_toArray, List.set_cons_zero, List.set_cons_succ]
                  have hg2 := hk2 _ _ (by simp [Value.ownBlock]) hg0
                  clear hg0 bB hk2 hz2
                all_goals
                  have hr2 : Reads _ 1 (.slice (some ⟨_, 0, none⟩) 1 1) [x].length ([x].flatMap encS) := reads_block hg2 rfl
                  refine wpAnyK_ready (rs := [9]) (by kernel_rfl) (by simp) ?_
                  refine AllReadyK.cons rfl (fun K hK => ?_) AllReadyK.nil
                  refine wp_append_v (.tmp 47) (.tmp 52) 28 (by rfl) 9 (.string ⟨#[]⟩) 1 16 encS (fun _ => rfl) encS_one Tryz.underlying28 infoS rfl (by decide) (by decide) (w0 := wN) (v := v1) (A := M.take m) (B := [x]) (by rfl) (ho2) (by rfl) (hr2) (by first | omega | (simp; done) | (simp; omega)) ?_; intro v2 w5 ho3 _ _
                  refine shutK_off hK (by decide) ?_
                  clear hK K
                  try simp only [List.getElem_toArray, List.getElem_cons_zero, List.getElem_cons_succ, Act.put, List.setIfInBounds_toArray, List.set_cons_zero, List.set_cons_succ]
                  refine wpAnyK_ready (rs := [13]) (by kernel_rfl) (by simp) ?_
                  refine AllReadyK.cons rfl (fun K hK => ?_) AllReadyK.nil
                  refine wp_append_v (.tmp 53) (.tmp 56) 28 (by rfl) 9 (.string ⟨#[]⟩) 1 16 encS (fun _ => rfl) encS_one Tryz.underlying28 infoS rfl (by decide) (by decide) (w0 := wN) (v := v2) (A := M.take m ++ [x]) (B := M.drop m) (by rfl) (ho3) (by rfl) (r2_z hm HVN.out ho3.2) (by first | omega | (simp; done) | (simp; omega)) ?_; intro v3 w6 ho4 _ _
                  refine shutK_off hK (by decide) ?_
                  clear hK K
                  try simp only [List.getElem_toArray, List.getElem_cons_zero, List.getElem_cons_succ, Act.put, List.setIfInBounds_toArray, List.set_cons_zero, List.set_cons_succ]
                  have HF := Lib.hid (ho4.rebase HBN.out)
                  clear ho4 ho3 ho2 hg2 hr2 bD
                  refine wpAnyK_ready (rs := [14]) (by kernel_rfl) (by simp) ?_
                  refine AllReadyK.cons rfl (fun K hK => ?_) AllReadyK.nil
                  go_simp
                  skip
                  refine shutK_off hK (by decide) ?_
                  clear hK K
                  try simp only [List.getElem_toArray, List.getElem_cons_zero, List.getElem_cons_succ, Act.put, List.setIfInBounds_toArray, List.set_cons_zero, List.set_cons_succ]
                  refine wpAnyK_done (by kernel_rfl) ?_ _
                  refine NoPanic.normal ?_
                  go_wp2_with fail
                  go_roundw
                  case rel => exact ⟨k + 1, by omega, by go_num, by
                    have e := foldI_take L k hlt
                    have hx' : L[k] = x := by rw [← HX.out, List.getD, List.getElem?_eq_getElem hlt]; rfl
                    rw [e, HM.out, hx', (insL_at m hm hA.out fun _ => ⟨by rw [HY.out]; exact HYX.out, by rw [HY.out]; exact HXY.out⟩), List.append_cons]
                    exact HF.out⟩
                  case measure => simp [intOf]; omega
          · have hq2 : decide ((m : Int) < M.length) = false := by simp; omega
            clear hbi
            go_wp2_with fail
            go_quiet (fail)
            go_wp2_with fail
            go_quiet (fail)
            go_wp2_with fail
            refine wp_world (fun wN hN => ?_)
            have HBu := Lib.hid (show Below wu.heap.size wu wN by rw [hN]; first | exact below_drewN (below_drewN HBI.out _) _ | exact below_drewN HBI.out _ | exact below_drewN (below_drewN (below_drewN HBI.out _) _) _)
            have HBN := Lib.hid (HO.out.2.trans (HBu.out.mono HO.out.2.size))
            have cx3 := (HBN.out.cell (p := ⟨b, off + k, none⟩) hb).trans CXH.out
            have HVN := Lib.hid (HVM.out.below HBu.out)
            have zb : b < wN.heap.size := by have := HBN.out.size; omega
            clear hN cx2 cx
            have hmc : (m : Int) ≤ (co : Int) := by omega
            refine wp_region_noPanic ?_
            refine wp_region_k (by kernel_rfl) (fun w' => w'.cell? ⟨b, off + k, none⟩ = some (strV x)) 9 ((by simpa using cx3)) (fun hHeld => ?_)
            refine wpAnyK_take0 (i := 0) (v := ?_) rfl (by kernel_rfl) (by kernel_rfl) (by kernel_rfl) (by decide) (fun _ _ _ h => h) (Or.inl ⟨by rfl, ?_⟩) (by first | exact fun _ => by assumption | exact fun h => absurd h (by decide)) ?_
            rotate_left 1
            · (intro wS hSw; (try dsimp only at hSw); go_simp; try with_reducible rfl)
            try simp only [List.getElem_toArray, List.getElem_cons_zero, List.getElem_cons_succ, Act.put, List.setIfInBounds_toArray, List.set_cons_zero, List.set_cons_succ]
            refine wpAnyK_take0 (i := 1) (v := ?_) rfl (by kernel_rfl) (by kernel_rfl) (by kernel_rfl) (by decide) (fun _ _ _ h => h) (Or.inl ⟨by rfl, ?_⟩) (by first | exact fun _ => by assumption | exact fun h => absurd h (by decide)) ?_
            rotate_left 1
            · (intro wS hSw; (try dsimp only at hSw); go_simp; try with_reducible rfl)
            try simp only [List.getElem_toArray, List.getElem_cons_zero, List.getElem_cons_succ, Act.put, List.setIfInBounds_toArray, List.set_cons_zero, List.set_cons_succ]
            refine wpAnyK_take0 (i := 10) (v := ?_) rfl (by kernel_rfl) (by kernel_rfl) (by kernel_rfl) (by decide) (fun _ _ _ h => h) (Or.inl ⟨by rfl, ?_⟩) (by first | exact fun _ => by assumption | exact fun h => absurd h (by decide)) ?_
            rotate_left 1
            · (intro wS hSw; (try dsimp only at hSw); go_simp; try with_reducible rfl)
            try simp only [List.getElem_toArray, List.getElem_cons_zero, List.getElem_cons_succ, Act.put, List.setIfInBounds_toArray, List.set_cons_zero, List.set_cons_succ]
            refine wpAnyK_take0 (i := 11) (v := ?_) rfl (by kernel_rfl) (by kernel_rfl) (by kernel_rfl) (by decide) (fun _ _ _ h => h) (Or.inl ⟨by rfl, ?_⟩) (by first | exact fun _ => by assumption | exact fun h => absurd h (by decide)) ?_
            rotate_left 1
            · (intro wS hSw; (try dsimp only at hSw); go_simp; try with_reducible rfl)
            try simp only [List.getElem_toArray, List.getElem_cons_zero, List.getElem_cons_succ, Act.put, List.setIfInBounds_toArray, List.set_cons_zero, List.set_cons_succ]
            refine wpAnyK_take (i := 4) (v := ?_) rfl (by kernel_rfl) (by kernel_rfl) (by kernel_rfl) (by kernel_rfl) (fun _ _ _ h => h) (Or.inl ⟨by rfl, ?_⟩) (by assumption) ?_
            rotate_left 1
            · (intro wS hSw; (try dsimp only at hSw); go_simp; try with_reducible rfl)
            try simp only [List.getElem_toArray, List.getElem_cons_zero, List.getElem_cons_succ, Act.put, List.setIfInBounds_toArray, List.set_cons_zero, List.set_cons_succ]
            refine wpAnyK_take (i := 5) (v := ?_) rfl (by kernel_rfl) (by kernel_rfl) (by kernel_rfl) (by kernel_rfl) (fun _ _ _ h => h) (Or.inl ⟨by rfl, ?_⟩) (by assumption) ?_
            rotate_left 1
            · (intro wS hSw; (try dsimp only at hSw); go_simp; try with_reducible rfl)
            try simp only [List.getElem_toArray, List.getElem_cons_zero, List.getElem_cons_succ, Act.put, List.setIfInBounds_toArray, List.set_cons_zero, List.set_cons_succ]
            refine wpAnyK_take (i := 6) (v := ?_) rfl (by kernel_rfl) (by kernel_rfl) (by kernel_rfl) (by kernel_rfl) (fun _ _ _ h => h) (Or.inl ⟨by rfl, ?_⟩) (by assumption) ?_
            rotate_left 1
            · (intro wS hSw; (try dsimp only at hSw); go_simp; try with_reducible rfl)
            try simp only [List.getElem_toArray, List.getElem_cons_zero, List.getElem_cons_succ, Act.put, List.setIfInBounds_toArray, List.set_cons_zero, List.set_cons_succ]
            refine wpAnyK_take (i := 7) (v := ?_) rfl (by kernel_rfl) (by kernel_rfl) (by kernel_rfl) (by kernel_rfl) (fun _ _ _ h => h) (Or.inl ⟨by rfl, ?_⟩) (by assumption) ?_
            rotate_left 1
            · (intro wS hSw; (try dsimp only at hSw); go_simp; try with_reducible rfl)
            try simp only [List.getElem_toArray, List.getElem_cons_zero, List.getElem_cons_succ, Act.put, List.setIfInBounds_toArray, List.set_cons_zero, List.set_cons_succ]
            refine wpAnyK_take0 (i := 2) (v := ?_) rfl (by kernel_rfl) (by kernel_rfl) (by kernel_rfl) (by decide) (fun _ _ _ h => h) (Or.inl ⟨by rfl, ?_⟩) (by first | exact fun _ => by assumption | exact fun h => absurd h (by decide)) ?_
            rotate_left 1
            · (intro wS hSw; (try dsimp only at hSw); go_simp; try with_reducible rfl)
            try simp only [List.getElem_toArray, List.getElem_cons_zero, List.getElem_cons_succ, Act.put, List.setIfInBounds_toArray, List.set_cons_zero, List.set_cons_succ]
            refine wpAnyK_take0 (i := 12) (v := ?_) rfl (by kernel_rfl) (by kernel_rfl) (by kernel_rfl) (by decide) (fun _ _ _ h => h) (Or.inl ⟨by rfl, ?_⟩) (by first | exact fun _ => by assumption | exact fun h => absurd h (by decide)) ?_
            rotate_left 1
            · (intro wS hSw; (try dsimp only at hSw); go_simp; try with_reducible rfl)
            try simp only [List.getElem_toArray, List.getElem_cons_zero, List.getElem_cons_succ, Act.put, List.setIfInBounds_toArray, List.set_cons_zero, List.set_cons_succ]
            have bD : Below wN.heap.size wN wN.drew := (Below.refl _ _).drew
            refine wpAnyK_ready (rs := [3, 8]) (by kernel_rfl) (by simp) ?_
            refine AllReadyK.cons rfl (fun K hK => ?_) (AllReadyK.cons rfl (fun K hK => ?_) AllReadyK.nil)
            focus
              refine wp_append_v (.const (.slice none 0 0)) (.tmp 46) 28 (by rfl) 9 (.string ⟨#[]⟩) 1 16 encS (fun _ => rfl) encS_one Tryz.underlying28 infoS rfl (by decide) (by decide) (w0 := wN) (v := .slice none 0 0) (A := []) (B := M.take m) (by rfl) (OwnV.nil bD) (by rfl) (r1_of hm HVN.out bD) (by first | omega | (simp; done) | (simp; omega)) ?_
              intro v1 w3 ho1 _ hz1
              rw [List.nil_append] at ho1
              refine shutK hK ((ho1.2.cell (p := ⟨b, off + k, none⟩) zb).trans cx3) (fun hHeld => ?_)
              clear hK K
              try simp only [List.getElem_toArray, List.getElem_cons_zero, List.getElem_cons_succ, Act.put, List.setIfInBounds_toArray, List.set_cons_zero, List.set_cons_succ]
              have bB := (Below.refl w3.heap.size w3).alloc (Nat.le_refl _) (.cells #[strV x] 9)
              refine wpAnyK_ready (rs := [8]) (by kernel_rfl) (by simp) ?_
              refine AllReadyK.cons rfl (fun K hK => ?_) AllReadyK.nil
              go_simp
              skip
              refine shutK hK (((ho1.2.trans (bB.mono ho1.2.size)).cell (p := ⟨b, off + k, none⟩) zb).trans cx3) (fun hHeld => ?_)
              clear hK K
              try simp only [List.getElem_toArray, List.getElem_cons_zero, List.getElem_cons_succ, Act.put, List.setIfInBounds_toArray, List.set_cons_zero, List.set_cons_succ]
              have ho2 := OwnV.below ho1 bB
              have hg2 : (w3.alloc (.cells #[strV x] 9)).heap[w3.heap.size]? = some (.cells #[strV x] 9 (0, 0)) := blk_new rfl
              clear ho1 bB hz1
            rotate_left 1
            focus
              go_simp
              have bB := bD.alloc (Nat.le_refl _) (.cells #[strV x] 9)
              have hg0 : (wN.drew.alloc (.cells #[strV x] 9)).heap[wN.heap.size]? = some (.cells #[strV x] 9 (0, 0)) := blk_new rfl
              refine shutK hK ((bB.cell (p := ⟨b, off + k, none⟩) zb).trans cx3) (fun hHeld => ?_)
              clear hK K
              try simp only [List.getElem_toArray, List.getElem_cons_zero, List.getElem_cons_succ, Act.put, List.setIfInBounds_toArray, List.set_cons_zero, List.set_cons_succ]
              refine wpAnyK_ready (rs := [3]) (by kernel_rfl) (by simp) ?_
              refine AllReadyK.cons rfl (fun K hK => ?_) AllReadyK.nil
              refine wp_append_v (.const (.slice none 0 0)) (.tmp 46) 28 (by rfl) 9 (.string ⟨#[]⟩) 1 16 encS (fun _ => rfl) encS_one Tryz.underlying28 infoS rfl (by decide) (by decide) (w0 := wN) (v := .slice none 0 0) (A := []) (B := M.take m) (by rfl) (OwnV.nil bB) (by rfl) (r1_of hm HVN.out bB) (by first | omega | (simp; done) | (simp; omega)) ?_; intro v1 w3 ho2 hk2 hz2; rw [List.nil_append] at ho2
              refine shutK hK ((ho2.2.cell (p := ⟨b, off + k, none⟩) zb).trans cx3) (fun hHeld => ?_)
              clear hK K
              try simp only [List.getElem_toArray, List.getElem_cons_zero, List.getElem_cons_succ, Act.put, List.setIfInBounds_toArray, List.set_cons_zero, List.set_cons_succ]
              have hg2 := hk2 _ _ (by simp [Value.ownBlock]) hg0
              clear hg0 bB hk2 hz2
            all_goals
              have hr2 : Reads _ 1 (.slice (some ⟨_, 0, none⟩) 1 1) [x].length ([x].flatMap encS) := reads_block hg2 rfl
              refine wpAnyK_ready (rs := [9]) (by kernel_rfl) (by simp) ?_
              refine AllReadyK.cons rfl (fun K hK => ?_) AllReadyK.nil
              refine wp_append_v (.tmp 47) (.tmp 52) 28 (by rfl) 9 (.string ⟨#[]⟩) 1 16 encS (fun _ => rfl) encS_one Tryz.underlying28 infoS rfl (by decide) (by decide) (w0 := wN) (v := v1) (A := M.take m) (B := [x]) (by rfl) (ho2) (by rfl) (hr2) (by first | omega | (simp; done) | (simp; omega)) ?_; intro v2 w5 ho3 _ _
              refine shutK_off hK (by decide) ?_
              clear hK K
              try simp only [List.getElem_toArray, List.getElem_cons_zero, List.getElem_cons_succ, Act.put, List.setIfInBounds_toArray, List.set_cons_zero, List.set_cons_succ]
              refine wpAnyK_ready (rs := [13]) (by kernel_rfl) (by simp) ?_
              refine AllReadyK.cons rfl (fun K hK => ?_) AllReadyK.nil
              refine wp_append_v (.tmp 53) (.tmp 56) 28 (by rfl) 9 (.string ⟨#[]⟩) 1 16 encS (fun _ => rfl) encS_one Tryz.underlying28 infoS rfl (by decide) (by decide) (w0 := wN) (v := v2) (A := M.take m ++ [x]) (B := M.drop m) (by rfl) (ho3) (by rfl) (r2_z hm HVN.out ho3.2) (by first | omega | (simp; done) | (simp; omega)) ?_; intro v3 w6 ho4 _ _
              refine shutK_off hK (by decide) ?_
              clear hK K
              try simp only [List.getElem_toArray, List.getElem_cons_zero, List.getElem_cons_succ, Act.put, List.setIfInBounds_toArray, List.set_cons_zero, List.set_cons_succ]
              have HF := Lib.hid (ho4.rebase HBN.out)
              clear ho4 ho3 ho2 hg2 hr2 bD
              refine wpAnyK_ready (rs := [14]) (by kernel_rfl) (by simp) ?_
              refine AllReadyK.cons rfl (fun K hK => ?_) AllReadyK.nil
              go_simp
              skip
              refine shutK_off hK (by decide) ?_
              clear hK K
              try simp only [List.getElem_toArray, List.getElem_cons_zero, List.getElem_cons_succ, Act.put, List.setIfInBounds_toArray, List.set_cons_zero, List.set_cons_succ]
              refine wpAnyK_done (by kernel_rfl) ?_ _
              refine NoPanic.normal ?_
              go_wp2_with fail
              go_roundw
              case rel => exact ⟨k + 1, by omega, by go_num, by
                have e := foldI_take L k hlt
                have hx' : L[k] = x := by rw [← HX.out, List.getD, List.getElem?_eq_getElem hlt]; rfl
                rw [e, HM.out, hx', (insL_at m hm hA.out fun h => absurd h hml2), List.append_cons]
                exact HF.out⟩
              case measure => simp [intOf]; omega
    · have hq : decide ((k : Int) < L.length) = false := by simp; omega
      rw [List.take_of_length_le (by omega)] at HM
      go_wp2_with fail
      go_ret
      exact ⟨_, rfl, by rw [HM.out]; exact HO.out⟩
end Go.Proofs.YtfgoiojmbphmnaaGreatDoor
end
section
/- recordlinkmake: Bent: some rules. -/
set_option linter.unusedSimpArgs false
set_option linter.unusedVariables false
set_option maxRecDepth 100000
namespace Go.Proofs.YtfgoiojmbphmnaaGreatDoor
open Go.RowKit
attribute [local go_sem] toList_mk mk_size str_append
abbrev nil3 : Array Value := #[.slice none 0 0, .slice none 0 0, .slice none 0 0]
structure Few3 (r : RulesL) (N : Nat) : Prop where
  t : r.titles.length ≤ N
  n : r.nicks.length ≤ N
  s : r.streets.length ≤ N
/-- while rules are bent: the result's block, the block Y of the rules, what these hold -/
structure BMid (D : Nat) (w : World) (Y n : Nat) (vt vn vs : Value) (r : RulesL) (wc : World) : Prop where
  z : wc.heap[w.heap.size]? = some (.cells nil3 31 (0, 0))
  y : wc.heap[Y]? = some (.cells #[vt, vn, vs] 31 (0, 0))
  ru : RulesAt wc (fun b => w.heap.size < b ∧ b ≠ Y) vt vn vs r
  few : Few3 r n
  m : Moved D w wc
  lt : w.heap.size < Y
theorem RulesAt.moved' {D : Nat} {w w' : World} {S : Nat → Prop} {vt vn vs : Value} {r : RulesL} (h : RulesAt w S vt vn vs r) (hS : ∀ b, S b → b ≠ D) (m : Moved D w w') : RulesAt w' S vt vn vs r :=
  have mv : ∀ b, b < w.heap.size → S b → w'.heap[b]? = w.heap[b]? ∧ S b := fun b hb hs => ⟨m.grown.block b hb (by have := hS b hs; simp; omega), hs⟩
  ⟨h.1.move m.size mv, h.2.1.move m.size mv, h.2.2.move m.size mv⟩
theorem BMid.moved {D : Nat} {w wc wd : World} {Y n : Nat} {vt vn vs : Value} {r : RulesL} (h : BMid D w Y n vt vn vs r wc) (m : Moved D wc wd) : BMid D w Y n vt vn vs r wd := by
  have hD := h.m.lt; have hl := h.lt
  exact ⟨m.blk (by omega) h.z, m.blk (by omega) h.y, h.ru.moved' (fun b hb => by omega) m, h.few, h.m.trans m, h.lt⟩
theorem BMid.below {D : Nat} {w wc wd : World} {Y n : Nat} {vt vn vs : Value} {r : RulesL} (h : BMid D w Y n vt vn vs r wc) (hb : Below wc.heap.size wc wd) : BMid D w Y n vt vn vs r wd :=
  h.moved ((Moved.start h.m.deck).below hb)
theorem BMid.setT {D : Nat} {w wA wc : World} {Y n : Nat} {vt vn vs v : Value} {r : RulesL} {T : List (List UInt8)} (h : BMid D w Y n vt vn vs r wA) (ho : OwnM D 9 1 encS wA v T wc) (hn : T.length ≤ n) : BMid D w Y n v vn vs ⟨T, r.nicks, r.streets⟩ (wc.setCell ⟨Y, 0, none⟩ v) := by
  have h' := h.moved ho.2
  have hD := h.m.lt; have hl := h.lt; have hY := lt_of_blk h.y
  have hv := (OwnM.vec (enc := encS) (fun _ => rfl) ho).weaken (S' := fun b => w.heap.size < b ∧ b ≠ Y) fun b hb => ⟨by omega, by omega⟩
  refine ⟨blk_far h'.z (by show w.heap.size ≠ Y; omega), blk_set h'.y, ⟨hv.set1 (fun b hb => hb.2) _, h'.ru.2.1.set1 (fun b hb => hb.2) _, h'.ru.2.2.set1 (fun b hb => hb.2) _⟩, ⟨hn, h.few.n, h.few.s⟩, h'.m.set (a := ⟨Y, 0, none⟩) (Nat.le_of_lt hl) _, hl⟩
theorem BMid.setN {D : Nat} {w wA wc : World} {Y n : Nat} {vt vn vs v : Value} {r : RulesL} {T : List P2} (h : BMid D w Y n vt vn vs r wA) (ho : OwnM D 83 2 encP wA v T wc) (hn : T.length ≤ n) : BMid D w Y n vt v vs ⟨r.titles, T, r.streets⟩ (wc.setCell ⟨Y, 1, none⟩ v) := by
  have h' := h.moved ho.2
  have hD := h.m.lt; have hl := h.lt; have hY := lt_of_blk h.y
  have hv := (OwnM.vec (enc := encP) (fun _ => rfl) ho).weaken (S' := fun b => w.heap.size < b ∧ b ≠ Y) fun b hb => ⟨by omega, by omega⟩
  refine ⟨blk_far h'.z (by show w.heap.size ≠ Y; omega), blk_set h'.y, ⟨h'.ru.1.set1 (fun b hb => hb.2) _, hv.set1 (fun b hb => hb.2) _, h'.ru.2.2.set1 (fun b hb => hb.2) _⟩, ⟨h.few.t, hn, h.few.s⟩, h'.m.set (a := ⟨Y, 1, none⟩) (Nat.le_of_lt hl) _, hl⟩
theorem BMid.setS {D : Nat} {w wA wc : World} {Y n : Nat} {vt vn vs v : Value} {r : RulesL} {T : List P2} (h : BMid D w Y n vt vn vs r wA) (ho : OwnM D 83 2 encP wA v T wc) (hn : T.length ≤ n) : BMid D w Y n vt vn v ⟨r.titles, r.nicks, T⟩ (wc.setCell ⟨Y, 2, none⟩ v) := by
  have h' := h.moved ho.2
  have hD := h.m.lt; have hl := h.lt; have hY := lt_of_blk h.y
  have hv := (OwnM.vec (enc := encP) (fun _ => rfl) ho).weaken (S' := fun b => w.heap.size < b ∧ b ≠ Y) fun b hb => ⟨by omega, by omega⟩
  refine ⟨blk_far h'.z (by show w.heap.size ≠ Y; omega), blk_set h'.y, ⟨h'.ru.1.set1 (fun b hb => hb.2) _, h'.ru.2.1.set1 (fun b hb => hb.2) _, hv.set1 (fun b hb => hb.2) _⟩, ⟨h.few.t, h.few.n, hn⟩, h'.m.set (a := ⟨Y, 2, none⟩) (Nat.le_of_lt hl) _, hl⟩
def BentPost (D : Nat) (w : World) (e : Ending) (w' : World) : Prop := ∃ vt vn vs r, e = .returned (.agg #[vt, vn, vs]) ∧ RulesAt w' (fun b => w.heap.size ≤ b) vt vn vs r ∧ Few3 r 100 ∧ Moved D w w'
theorem few_of {r : RulesL} (h : RulesD r) : Few3 r 2 := by
  obtain ⟨h1, h2, h3⟩ := h
  exact ⟨by rcases h1 with h | h <;> rw [h] <;> simp [t1L], by rcases h2 with h | h <;> rw [h] <;> simp [n1L], by rcases h3 with h | h <;> rw [h] <;> simp [s1L]⟩
theorem u8_byte (x : Int) : ∃ b : UInt8, IntKind.u8.wrap x = (b.toNat : Int) := by
  have h : 0 ≤ IntKind.u8.wrap x ∧ IntKind.u8.wrap x < 256 := by
    simp only [IntKind.wrap, IntKind.bits, IntKind.signed]
    simp
    omega
  exact ⟨UInt8.ofNat (IntKind.u8.wrap x).toNat, by rw [UInt8.toNat_ofNat']; omega⟩
theorem wpk_world {P : Program} {md : Region.Mode} {ops : Array Oper} {Q : Exit → Act → World → Prop} {S : World → Prop} {k fuel : Nat} {listed : Array Bool} {a : Act} {W : World} (h : ∀ w', w' = W → wpAnyK P md ops Q S k fuel listed a w') : wpAnyK P md ops Q S k fuel listed a W := h W rfl
theorem bytes_two (W : World) (g : Nat) (b1 b2 : UInt8) (h : W.heap[g]? = some (.cells #[.int .u8 (b1.toNat : Int), .int .u8 (b2.toNat : Int)] 5 (0, 0))) : (convert 66 9 (.slice (some ⟨g, 0, none⟩) 2 2)).run Tryz.prog W = .ok (strV [b1, b2]) W :=
  run_convert_bytes_back (P := Tryz.prog) W _ _ _ ⟨g, 0, none⟩ 2 [b1, b2] Tryz.underlying66 Tryz.underlying5 Tryz.underlying9 (fun j hj => by
    rw [add_plain, Nat.zero_add, cell_of_row _ _ _ _ _ _ h]
    match j, hj with
    | 0, _ => rfl
    | 1, _ => rfl)
theorem encP_one : ∀ x : P2, ∀ u ∈ encP x, u.oneCell' = true := by intro x u hu; simp [encP] at hu; rcases hu with rfl | rfl <;> rfl
-- WALK
set_option maxHeartbeats 8000000 in
theorem rbent_deal (D : Nat) (w : World) (h : DeckAt w D) :
    Calls Tryz.prog 49 #[.pointer (some ⟨D, 0, none⟩)] w (BentPost D w) := by
  have zD := h.lt
  have M0 := Lib.hid (Moved.start h); clear h
  go_enter Tryz.func49, Tryz.ntmps49
  go_wp2_with fail
  refine (rules_deal D _ (M0.out.alloc _).deck).mono ?_
  rintro e w1 ⟨vt, vn, vs, r, rfl, hr, hd, mv⟩
  obtain ⟨at', ct, rfl⟩ := hr.1.slice
  obtain ⟨an, cn, rfl⟩ := hr.2.1.slice
  obtain ⟨as', cs, rfl⟩ := hr.2.2.slice
  have zw : w.heap.size < w1.heap.size := by have := mv.size; simp at this; omega
  have K0 := Lib.hid (show BMid D w w1.heap.size 100 (.slice at' r.titles.length ct) (.slice an r.nicks.length cn) (.slice as' r.streets.length cs) r (w1.alloc (.cells #[.slice at' r.titles.length ct, .slice an r.nicks.length cn, .slice as' r.streets.length cs] 31)) from
    ⟨blk_old (mv.blk (by omega) (blk_new rfl)), blk_new rfl, by
      have hb : Below w1.heap.size w1 (w1.alloc (.cells #[.slice at' r.titles.length ct, .slice an r.nicks.length cn, .slice as' r.streets.length cs] 31)) := (Below.refl _ _).alloc (Nat.le_refl _) _
      have mvv : ∀ b, b < w1.heap.size → (w.alloc (.cells nil3 31)).heap.size ≤ b → _ ∧ (w.heap.size < b ∧ b ≠ w1.heap.size) := fun b h1 h2 => ⟨hb.block b h1, by simp at h2; omega, by omega⟩
      exact ⟨hr.1.move hb.size mvv, hr.2.1.move hb.size mvv, hr.2.2.move hb.size mvv⟩, ⟨by have := (few_of hd).t; omega, by have := (few_of hd).n; omega, by have := (few_of hd).s; omega⟩, ((M0.out.alloc _).trans mv).alloc _, zw⟩)
  have HFw := Lib.hid (few_of hd)
  clear hr hd mv M0
  go_wp2_with fail
  refine (next_any D _ 9 K0.out.m.deck (by omega) (by omega)).mono ?_
  rintro e w2 ⟨q, rfl, q0, q1, mv⟩
  have K1 := Lib.hid (K0.out.moved mv)
  clear mv K0
  go_upto_block 0 with (fail)
  go_cut [] (fun wx => ∃ vt vn vs r, BMid D w w1.heap.size 100 vt vn vs r wx)
  case first =>
    have hf1 := HFw.out.t; have hf2 := HFw.out.n; have hf3 := HFw.out.s
    by_cases h0 : q = 0
    · subst h0
      obtain ⟨c0, c1, c2⟩ := cells3 K1.out.y
      have zY := lt_of_blk K1.out.y
      have RL := Vec.reads (k := 1) (enc := encS) (fun _ => rfl) K1.out.ru.1
      go_wp2_with (at_builtin; refine wpList_append_m rfl (.const (.slice none 0 0)) (.tmp 12) 28 rfl D 9 (.string ⟨#[]⟩) 1 16 encS (fun _ => rfl) encS_one Tryz.underlying28 infoS rfl (by decide) (by decide) (wA := w2) (v := .slice none 0 0) (A := []) (B := r.titles) rfl (OwnM.nil (Moved.start K1.out.m.deck)) rfl RL (by first | omega | (simp; done) | (simp; omega)) ?_; intro v1 w3 ho1 _; rw [List.nil_append] at ho1)
      refine (pick_new D w3 w3 [[], [97], [120, 49], [122, 122], [114, 111, 98, 101, 114, 116]] 5 rfl (by omega) (by omega) (Moved.start ho1.2.deck)).mono ?_
      rintro e w4 ⟨x, rfl, hx, mv⟩
      have HO := Lib.hid (ho1.moved mv)
      clear mv hx ho1 c0 c1 c2
      have hr5 := reads_block (w := w4.alloc (.cells #[strV x] 9)) (g := w4.heap.size) (xs := [strV x]) (size := 1) (c := 1) (blk_new rfl) rfl
      go_wp2_with (at_builtin; refine wpList_append_m rfl (.tmp 13) (.tmp 17) 28 rfl D 9 (.string ⟨#[]⟩) 1 16 encS (fun _ => rfl) encS_one Tryz.underlying28 infoS rfl (by decide) (by decide) (wA := w2) (v := v1) (A := r.titles) (B := [x]) rfl (HO.out.below ((Below.refl _ _).alloc (Nat.le_refl _) _)) rfl hr5 (by first | omega | (simp; done) | (simp; omega)) ?_; intro v2 w5 ho4 _; obtain ⟨av2, cv2, rfl⟩ := own_slice ho4.1; rw [List.length_append, List.length_singleton] at ho4; have hy5 := (K1.out.moved ho4.2).y; obtain ⟨c0, c1, c2⟩ := cells3 hy5; obtain ⟨f0, f1, f2⟩ := free3 hy5; have hlt5 := lt_of_blk hy5; have HO5 := Lib.hid ho4; clear ho4 hy5)
      go_meet
      exact ⟨_, _, _, _, K1.out.setT HO5.out (by rw [List.length_append, List.length_singleton]; omega)⟩
    · have e0 : (q == 0) = false := by simpa using h0
      by_cases h1 : q = 1
      · subst h1
        clear h0 e0
        obtain ⟨c0, c1, c2⟩ := cells3 K1.out.y
        have zY := lt_of_blk K1.out.y
        have RL := Vec.reads (k := 2) (enc := encP) (fun _ => rfl) K1.out.ru.2.1
        go_wp2_with (at_builtin; refine wpList_append_m rfl (.const (.slice none 0 0)) (.tmp 23) 29 rfl D 83 (.agg #[.string ⟨#[]⟩, .string ⟨#[]⟩]) 2 32 encP (fun _ => rfl) encP_one Tryz.underlying29 infoP rfl (by decide) (by decide) (wA := w2) (v := .slice none 0 0) (A := []) (B := r.nicks) rfl (OwnM.nil (Moved.start K1.out.m.deck)) rfl RL (by first | omega | (simp; done) | (simp; omega)) ?_; intro v1 w3 ho1 _; rw [List.nil_append] at ho1)
        refine (token_deal D _ ho1.2.deck).mono ?_
        rintro e w4 ⟨x, rfl, hx, mv⟩
        have HO1 := Lib.hid (ho1.moved mv)
        clear mv hx ho1 c0 c1 c2
        go_wp2_with fail
        refine (token_deal D _ HO1.out.2.deck).mono ?_
        rintro e w6 ⟨y, rfl, hy, mv⟩
        have HO := Lib.hid (HO1.out.moved mv)
        clear mv hy HO1
        have hr5 := reads_block (w := w6.alloc (.cells #[strV x, strV y] 83)) (g := w6.heap.size) (xs := [strV x, strV y]) (size := 2) (c := 1) (blk_new rfl) rfl
        go_wp2_with (at_builtin; refine wpList_append_m rfl (.tmp 24) (.tmp 30) 29 rfl D 83 (.agg #[.string ⟨#[]⟩, .string ⟨#[]⟩]) 2 32 encP (fun _ => rfl) encP_one Tryz.underlying29 infoP rfl (by decide) (by decide) (wA := w2) (v := v1) (A := r.nicks) (B := [(x, y)]) rfl (HO.out.below ((Below.refl _ _).alloc (Nat.le_refl _) _)) rfl hr5 (by first | omega | (simp; done) | (simp; omega)) ?_; intro v2 w5 ho4 _; obtain ⟨av2, cv2, rfl⟩ := own_slice ho4.1; rw [List.length_append, List.length_singleton] at ho4; have hy5 := (K1.out.moved ho4.2).y; obtain ⟨c0, c1, c2⟩ := cells3 hy5; obtain ⟨f0, f1, f2⟩ := free3 hy5; have hlt5 := lt_of_blk hy5; have HO5 := Lib.hid ho4; clear ho4 hy5)
        go_meet
        exact ⟨_, _, _, _, K1.out.setN HO5.out (by rw [List.length_append, List.length_singleton]; omega)⟩
      · have e1 : (q == 1) = false := by simpa using h1
        by_cases h2 : q = 2
        · subst h2
          clear h0 h1 e0 e1
          obtain ⟨c0, c1, c2⟩ := cells3 K1.out.y
          have zY := lt_of_blk K1.out.y
          have RL := Vec.reads (k := 2) (enc := encP) (fun _ => rfl) K1.out.ru.2.2
          go_wp2_with (at_builtin; refine wpList_append_m rfl (.const (.slice none 0 0)) (.tmp 36) 29 rfl D 83 (.agg #[.string ⟨#[]⟩, .string ⟨#[]⟩]) 2 32 encP (fun _ => rfl) encP_one Tryz.underlying29 infoP rfl (by decide) (by decide) (wA := w2) (v := .slice none 0 0) (A := []) (B := r.streets) rfl (OwnM.nil (Moved.start K1.out.m.deck)) rfl RL (by first | omega | (simp; done) | (simp; omega)) ?_; intro v1 w3 ho1 _; rw [List.nil_append] at ho1)
          refine (pick_new D w3 w3 [[115, 116, 114, 101, 101, 116], [122, 122], [97]] 3 rfl (by omega) (by omega) (Moved.start ho1.2.deck)).mono ?_
          rintro e w4 ⟨x, rfl, hx, mv⟩
          have HO1 := Lib.hid (ho1.moved mv)
          clear mv hx ho1 c0 c1 c2
          go_wp2_with fail
          refine (pick_new D w4 w4 [[115, 116], [49, 50], [120], []] 4 rfl (by omega) (by omega) (Moved.start HO1.out.2.deck)).mono ?_
          rintro e w6 ⟨y, rfl, hy, mv⟩
          have HO := Lib.hid (HO1.out.moved mv)
          clear mv hy HO1
          have hr5 := reads_block (w := w6.alloc (.cells #[strV x, strV y] 83)) (g := w6.heap.size) (xs := [strV x, strV y]) (size := 2) (c := 1) (blk_new rfl) rfl
          go_wp2_with (at_builtin; refine wpList_append_m rfl (.tmp 37) (.tmp 45) 29 rfl D 83 (.agg #[.string ⟨#[]⟩, .string ⟨#[]⟩]) 2 32 encP (fun _ => rfl) encP_one Tryz.underlying29 infoP rfl (by decide) (by decide) (wA := w2) (v := v1) (A := r.streets) (B := [(x, y)]) rfl (HO.out.below ((Below.refl _ _).alloc (Nat.le_refl _) _)) rfl hr5 (by first | omega | (simp; done) | (simp; omega)) ?_; intro v2 w5 ho4 _; obtain ⟨av2, cv2, rfl⟩ := own_slice ho4.1; rw [List.length_append, List.length_singleton] at ho4; have hy5 := (K1.out.moved ho4.2).y; obtain ⟨c0, c1, c2⟩ := cells3 hy5; obtain ⟨f0, f1, f2⟩ := free3 hy5; have hlt5 := lt_of_blk hy5; have HO5 := Lib.hid ho4; clear ho4 hy5)
          go_meet
          exact ⟨_, _, _, _, K1.out.setS HO5.out (by rw [List.length_append, List.length_singleton]; omega)⟩
        · have e2 : (q == 2) = false := by simpa using h2
          by_cases h3 : q = 3
          · subst h3
            clear h0 h1 h2 e0 e1 e2
            go_wp2_with fail
            go_loopw [4] (fun i wr => ∃ (k : Nat) (vt : Value) (T : List (List UInt8)), i = .int .i64 k ∧ k ≤ 33 ∧ T.length ≤ 2 + k ∧ BMid D w w1.heap.size 100 vt (.slice an r.nicks.length cn) (.slice as' r.streets.length cs) ⟨T, r.nicks, r.streets⟩ wr) (fun i _ => 40 - (intOf i).toNat)
            case atStart => exact ⟨0, _, r.titles, rfl, by omega, by omega, K1.out⟩
            case round =>
              obtain ⟨k, vt, T, rfl, hk, hT, hm⟩ := hrel
              have KA := Lib.hid hm; clear hm K1
              go_wp2_with fail
              refine (next_any D _ 2 KA.out.m.deck (by omega) (by omega)).mono ?_
              rintro e wA ⟨p, rfl, p0, p1, mv⟩
              have KB := Lib.hid (KA.out.moved mv)
              clear mv KA
              by_cases hlt : (k : Int) < 32 + p
              · have hq : decide ((k : Int) < 32 + p) = true := by simpa using hlt
                obtain ⟨atT, ctT, rfl⟩ := KB.out.ru.1.slice
                obtain ⟨c0, c1, c2⟩ := cells3 KB.out.y
                have f0 := (free3 KB.out.y).1
                have zY := lt_of_blk KB.out.y
                have hk32 : k ≤ 32 := by omega
                go_wp2_with fail
                refine wp_region_noPanic ?_
                refine wp_region_k (by kernel_rfl) (fun w' => w'.cell? ⟨w1.heap.size, 0, none⟩ = some (.slice atT T.length ctT)) 2 (c0) (fun hHeld => ?_)
                refine wpAnyK_take (i := 0) (v := ?_) rfl (by kernel_rfl) (by kernel_rfl) (by kernel_rfl) (by kernel_rfl) (fun _ _ _ h => h) (Or.inl ⟨by rfl, ?_⟩) (by assumption) ?_
                rotate_left 1
                · (intro wS hSw; (try dsimp only at hSw); go_simp; try with_reducible rfl)
                try simp only [List.getElem_toArray, List.getElem_cons_zero, List.getElem_cons_succ, Act.put, List.setIfInBounds_toArray, List.set_cons_zero, List.set_cons_succ]
                refine wpAnyK_take (i := 1) (v := ?_) rfl (by kernel_rfl) (by kernel_rfl) (by kernel_rfl) (by kernel_rfl) (fun _ _ _ h => h) (Or.inl ⟨by rfl, ?_⟩) (by assumption) ?_
                rotate_left 1
                · (intro wS hSw; (try dsimp only at hSw); go_simp; try with_reducible rfl)
                try simp only [List.getElem_toArray, List.getElem_cons_zero, List.getElem_cons_succ, Act.put, List.setIfInBounds_toArray, List.set_cons_zero, List.set_cons_succ]
                refine wpAnyK_take0 (i := 3) (v := ?_) rfl (by kernel_rfl) (by kernel_rfl) (by kernel_rfl) (by decide) (fun _ _ _ h => h) (Or.inl ⟨by rfl, ?_⟩) (by first | exact fun _ => by assumption | exact fun h => absurd h (by decide)) ?_
                rotate_left 1
                · (intro wS hSw; (try dsimp only at hSw); go_simp; try with_reducible rfl)
                try simp only [List.getElem_toArray, List.getElem_cons_zero, List.getElem_cons_succ, Act.put, List.setIfInBounds_toArray, List.set_cons_zero, List.set_cons_succ]
                refine wpAnyK_take0 (i := 7) (v := ?_) rfl (by kernel_rfl) (by kernel_rfl) (by kernel_rfl) (by decide) (fun _ _ _ h => h) (Or.inl ⟨by rfl, ?_⟩) (by first | exact fun _ => by assumption | exact fun h => absurd h (by decide)) ?_
                rotate_left 1
                · (intro wS hSw; (try dsimp only at hSw); go_simp; try with_reducible rfl)
                try simp only [List.getElem_toArray, List.getElem_cons_zero, List.getElem_cons_succ, Act.put, List.setIfInBounds_toArray, List.set_cons_zero, List.set_cons_succ]
                have RLB : ∀ w', Below wA.heap.size wA w' → Reads w' 1 (.slice atT T.length ctT) T.length (T.flatMap encS) := fun w' hb => Vec.reads (k := 1) (enc := encS) (fun _ => rfl) (KB.out.ru.1.below hb)
                have RLBh := Lib.hid RLB
                clear RLB
                refine wpAnyK_take0 (i := 4) (v := ?_) rfl (by kernel_rfl) (by kernel_rfl) (by kernel_rfl) (by decide) (fun _ _ _ h => h) (Or.inl ⟨by rfl, ?_⟩) (by first | exact fun _ => by assumption | exact fun h => absurd h (by decide)) ?_
                rotate_left 1
                · (intro wS hSw; (try dsimp only at hSw); go_simp; try with_reducible rfl)
                try simp only [List.getElem_toArray, List.getElem_cons_zero, List.getElem_cons_succ, Act.put, List.setIfInBounds_toArray, List.set_cons_zero, List.set_cons_succ]
                refine wpAnyK_take0 (i := 5) (v := ?_) rfl (by kernel_rfl) (by kernel_rfl) (by kernel_rfl) (by decide) (fun _ _ _ h => h) (Or.inl ⟨by rfl, ?_⟩) (by first | exact fun _ => by assumption | exact fun h => absurd h (by decide)) ?_
                rotate_left 1
                · (intro wS hSw; (try dsimp only at hSw); go_simp; try with_reducible rfl)
                try simp only [List.getElem_toArray, List.getElem_cons_zero, List.getElem_cons_succ, Act.put, List.setIfInBounds_toArray, List.set_cons_zero, List.set_cons_succ]
                refine wpAnyK_take0 (i := 6) (v := ?_) rfl (by kernel_rfl) (by kernel_rfl) (by kernel_rfl) (by decide) (fun _ _ _ h => h) (Or.inl ⟨by rfl, ?_⟩) (by first | exact fun _ => by assumption | exact fun h => absurd h (by decide)) ?_
                rotate_left 1
                · (intro wS hSw; (try dsimp only at hSw); go_simp; try with_reducible rfl)
                try simp only [List.getElem_toArray, List.getElem_cons_zero, List.getElem_cons_succ, Act.put, List.setIfInBounds_toArray, List.set_cons_zero, List.set_cons_succ]
                refine wpAnyK_take0 (i := 8) (v := ?_) rfl (by kernel_rfl) (by kernel_rfl) (by kernel_rfl) (by decide) (fun _ _ _ h => h) (Or.inl ⟨by rfl, ?_⟩) (by first | exact fun _ => by assumption | exact fun h => absurd h (by decide)) ?_
                rotate_left 1
                · (intro wS hSw; (try dsimp only at hSw); go_simp; try with_reducible rfl)
                try simp only [List.getElem_toArray, List.getElem_cons_zero, List.getElem_cons_succ, Act.put, List.setIfInBounds_toArray, List.set_cons_zero, List.set_cons_succ]
                refine wpAnyK_take0 (i := 9) (v := ?_) rfl (by kernel_rfl) (by kernel_rfl) (by kernel_rfl) (by decide) (fun _ _ _ h => h) (Or.inl ⟨by rfl, ?_⟩) (by first | exact fun _ => by assumption | exact fun h => absurd h (by decide)) ?_
                rotate_left 1
                · (intro wS hSw; (try dsimp only at hSw); go_simp; try with_reducible rfl)
                try simp only [List.getElem_toArray, List.getElem_cons_zero, List.getElem_cons_succ, Act.put, List.setIfInBounds_toArray, List.set_cons_zero, List.set_cons_succ]
                refine wpAnyK_take0 (i := 10) (v := ?_) rfl (by kernel_rfl) (by kernel_rfl) (by kernel_rfl) (by decide) (fun _ _ _ h => h) (Or.inl ⟨by rfl, ?_⟩) (by first | exact fun _ => by assumption | exact fun h => absurd h (by decide)) ?_
                rotate_left 1
                · (intro wS hSw; (try dsimp only at hSw); go_simp; try with_reducible rfl)
                try simp only [List.getElem_toArray, List.getElem_cons_zero, List.getElem_cons_succ, Act.put, List.setIfInBounds_toArray, List.set_cons_zero, List.set_cons_succ]
                obtain ⟨b1, hb1⟩ := u8_byte (IntKind.i64.wrap (97 + IntKind.i64.wrap ((k : Int) / 26)))
                obtain ⟨b2, hb2⟩ := u8_byte (IntKind.i64.wrap (97 + (k : Int).tmod 26))
                rw [hb1, hb2]
                clear hb1 hb2
                have bD := (Below.refl wA.heap.size wA).drew
                refine wpAnyK_ready (rs := [2, 11]) (by kernel_rfl) (by simp) ?_
                refine AllReadyK.cons rfl (fun KK hK => ?_) (AllReadyK.cons rfl (fun KK hK => ?_) AllReadyK.nil)
                · refine wp_append_m (.const (.slice none 0 0)) (.tmp 58) 28 rfl D 9 (.string ⟨#[]⟩) 1 16 encS (fun _ => rfl) encS_one Tryz.underlying28 infoS rfl (by decide) (by decide) (wA := wA) (v := .slice none 0 0) (A := []) (B := T) rfl (OwnM.nil ((Moved.start KB.out.m.deck).below bD)) rfl (RLBh.out _ bD) (by first | omega | (simp; done) | (simp; omega)) ?_
                  intro v1 W1 ho1 hk1
                  rw [List.nil_append] at ho1
                  refine shutK_off hK (by decide) ?_
                  clear hK KK
                  try simp only [List.getElem_toArray, List.getElem_cons_zero, List.getElem_cons_succ, Act.put, List.setIfInBounds_toArray, List.set_cons_zero, List.set_cons_succ]
                  refine wpAnyK_ready (rs := [11]) (by kernel_rfl) (by simp) ?_
                  refine AllReadyK.cons rfl (fun KK hK => ?_) AllReadyK.nil
                  go_simp
                  refine shutK_off hK (by decide) ?_
                  clear hK KK
                  try simp only [List.getElem_toArray, List.getElem_cons_zero, List.getElem_cons_succ, Act.put, List.setIfInBounds_toArray, List.set_cons_zero, List.set_cons_succ]
                  refine wpk_world (fun W2 hW2 => ?_)
                  have gu2 : W2.heap[W1.heap.size]? = some (.cells #[.int .u8 (b1.toNat : Int), .int .u8 (b2.toNat : Int)] 5 (0, 0)) := by rw [hW2]; exact blk_new (w := W1) rfl
                  have q2 : Below W1.heap.size W1 W2 := by rw [hW2]; exact (Below.refl _ _).alloc (Nat.le_refl _) (.cells #[.int .u8 (b1.toNat : Int), .int .u8 (b2.toNat : Int)] 5)
                  have ho2 := ho1.below q2
                  clear hW2
                  refine wpAnyK_ready (rs := [12]) (by kernel_rfl) (by simp) ?_
                  refine AllReadyK.cons rfl (fun KK hK => ?_) AllReadyK.nil
                  have hcv3 := bytes_two W2 _ b1 b2 gu2
                  go_simp
                  clear hcv3
                  refine shutK_off hK (by decide) ?_
                  clear hK KK
                  try simp only [List.getElem_toArray, List.getElem_cons_zero, List.getElem_cons_succ, Act.put, List.setIfInBounds_toArray, List.set_cons_zero, List.set_cons_succ]
                  refine wpAnyK_take0 (i := 13) (v := ?_) rfl (by kernel_rfl) (by kernel_rfl) (by kernel_rfl) (by decide) (fun _ _ _ h => h) (Or.inl ⟨by rfl, ?_⟩) (by first | exact fun _ => by assumption | exact fun h => absurd h (by decide)) ?_
                  rotate_left 1
                  · (intro wS hSw; (try dsimp only at hSw); go_simp; try with_reducible rfl)
                  try simp only [List.getElem_toArray, List.getElem_cons_zero, List.getElem_cons_succ, Act.put, List.setIfInBounds_toArray, List.set_cons_zero, List.set_cons_succ]
                  refine wpAnyK_ready (rs := [14]) (by kernel_rfl) (by simp) ?_
                  refine AllReadyK.cons rfl (fun KK hK => ?_) AllReadyK.nil
                  go_simp
                  refine shutK_off hK (by decide) ?_
                  clear hK KK
                  try simp only [List.getElem_toArray, List.getElem_cons_zero, List.getElem_cons_succ, Act.put, List.setIfInBounds_toArray, List.set_cons_zero, List.set_cons_succ]
                  refine wpk_world (fun W4 hW4 => ?_)
                  have gs4 : W4.heap[W2.heap.size]? = some (.cells #[strV [122, 122, b1, b2]] 9 (0, 0)) := by rw [hW4]; exact blk_new (w := W2) rfl
                  have q4 : Below W2.heap.size W2 W4 := by rw [hW4]; exact (Below.refl _ _).alloc (Nat.le_refl _) (.cells #[strV [122, 122, b1, b2]] 9)
                  have ho4 := ho2.below q4
                  have gu4 := blk_below (show Below W2.heap.size W2 W4 by rw [hW4]; exact (Below.refl _ _).alloc (Nat.le_refl _) _) (lt_of_blk gu2) gu2
                  clear hW4
                  have hr15 : Reads W4 1 (.slice (some ⟨_, 0, none⟩) 1 1) [[122, 122, b1, b2]].length ([[122, 122, b1, b2]].flatMap encS) := reads_block (xs := [strV [122, 122, b1, b2]]) gs4 rfl
                  refine wpAnyK_ready (rs := [15]) (by kernel_rfl) (by simp) ?_
                  refine AllReadyK.cons rfl (fun KK hK => ?_) AllReadyK.nil
                  refine wp_append_m (.tmp 59) (.tmp 71) 28 rfl D 9 (.string ⟨#[]⟩) 1 16 encS (fun _ => rfl) encS_one Tryz.underlying28 infoS rfl (by decide) (by decide) (wA := wA) (v := v1) (A := T) (B := [[122, 122, b1, b2]]) rfl (ho4) rfl (hr15) (by first | omega | (simp; done) | (simp; omega)) ?_
                  intro v2 W15 ho15 _
                  obtain ⟨av2, cv2, rfl⟩ := own_slice ho15.1
                  rw [List.length_append, List.length_singleton] at ho15
                  have hy15 := (KB.out.moved ho15.2).y
                  obtain ⟨c0, c1, c2⟩ := cells3 hy15
                  obtain ⟨f0, f1, f2⟩ := free3 hy15
                  have hlt15 := lt_of_blk hy15
                  have HO15 := Lib.hid ho15
                  clear ho15 hy15
                  refine shutK_off hK (by decide) ?_
                  clear hK KK
                  try simp only [List.getElem_toArray, List.getElem_cons_zero, List.getElem_cons_succ, Act.put, List.setIfInBounds_toArray, List.set_cons_zero, List.set_cons_succ]
                  refine wpAnyK_ready (rs := [16]) (by kernel_rfl) (by simp) ?_
                  refine AllReadyK.cons rfl (fun K hK => ?_) AllReadyK.nil
                  go_simp
                  skip
                  refine shutK_off hK (by decide) ?_
                  clear hK K
                  try simp only [List.getElem_toArray, List.getElem_cons_zero, List.getElem_cons_succ, Act.put, List.setIfInBounds_toArray, List.set_cons_zero, List.set_cons_succ]
                  refine wpAnyK_ready (rs := [17]) (by kernel_rfl) (by simp) ?_
                  refine AllReadyK.cons rfl (fun K hK => ?_) AllReadyK.nil
                  go_simp
                  skip
                  refine shutK_off hK (by decide) ?_
                  clear hK K
                  try simp only [List.getElem_toArray, List.getElem_cons_zero, List.getElem_cons_succ, Act.put, List.setIfInBounds_toArray, List.set_cons_zero, List.set_cons_succ]
                  refine wpAnyK_done (by kernel_rfl) ?_ _
                  refine NoPanic.normal ?_
                  go_wp2_with fail
                  go_roundw
                  case rel => exact ⟨k + 1, _, T ++ [[122, 122, b1, b2]], by go_num, by omega, by rw [List.length_append, List.length_singleton]; omega, KB.out.setT HO15.out (by rw [List.length_append, List.length_singleton]; omega)⟩
                  case measure => simp [intOf]; omega
                · go_simp
                  refine shutK hK ((bD.alloc (by have := bD.size; omega) (.cells #[.int .u8 (b1.toNat : Int), .int .u8 (b2.toNat : Int)] 5)).cell (p := ⟨w1.heap.size, 0, none⟩) zY |>.trans c0) (fun hHeld => ?_)
                  clear hK KK
                  try simp only [List.getElem_toArray, List.getElem_cons_zero, List.getElem_cons_succ, Act.put, List.setIfInBounds_toArray, List.set_cons_zero, List.set_cons_succ]
                  refine wpk_world (fun W1 hW1 => ?_)
                  have gu1 : W1.heap[wA.heap.size]? = some (.cells #[.int .u8 (b1.toNat : Int), .int .u8 (b2.toNat : Int)] 5 (0, 0)) := by rw [hW1]; exact blk_new (w := wA.drew) rfl
                  have bb1 : Below wA.heap.size wA W1 := by rw [hW1]; exact bD.alloc (by have := bD.size; omega) (.cells #[.int .u8 (b1.toNat : Int), .int .u8 (b2.toNat : Int)] 5)
                  clear hW1
                  have hHeld : W1.cell? ⟨w1.heap.size, 0, none⟩ = some (.slice atT T.length ctT) := (bb1.cell (p := ⟨w1.heap.size, 0, none⟩) zY).trans c0
                  refine wpAnyK_ready (rs := [2, 12]) (by kernel_rfl) (by simp) ?_
                  refine AllReadyK.cons rfl (fun KK hK => ?_) (AllReadyK.cons rfl (fun KK hK => ?_) AllReadyK.nil)
                  · refine wp_append_m (.const (.slice none 0 0)) (.tmp 58) 28 rfl D 9 (.string ⟨#[]⟩) 1 16 encS (fun _ => rfl) encS_one Tryz.underlying28 infoS rfl (by decide) (by decide) (wA := wA) (v := .slice none 0 0) (A := []) (B := T) rfl (OwnM.nil ((Moved.start KB.out.m.deck).below bb1)) rfl (RLBh.out _ bb1) (by first | omega | (simp; done) | (simp; omega)) ?_
                    intro v1 W2 ho2 hk2
                    rw [List.nil_append] at ho2
                    refine shutK_off hK (by decide) ?_
                    clear hK KK
                    try simp only [List.getElem_toArray, List.getElem_cons_zero, List.getElem_cons_succ, Act.put, List.setIfInBounds_toArray, List.set_cons_zero, List.set_cons_succ]
                    have gu2 := hk2 _ _ (by simp [Value.ownBlock]) gu1
                    refine wpAnyK_ready (rs := [12]) (by kernel_rfl) (by simp) ?_
                    refine AllReadyK.cons rfl (fun KK hK => ?_) AllReadyK.nil
                    have hcv3 := bytes_two W2 _ b1 b2 gu2
                    go_simp
                    clear hcv3
                    refine shutK_off hK (by decide) ?_
                    clear hK KK
                    try simp only [List.getElem_toArray, List.getElem_cons_zero, List.getElem_cons_succ, Act.put, List.setIfInBounds_toArray, List.set_cons_zero, List.set_cons_succ]
                    refine wpAnyK_take0 (i := 13) (v := ?_) rfl (by kernel_rfl) (by kernel_rfl) (by kernel_rfl) (by decide) (fun _ _ _ h => h) (Or.inl ⟨by rfl, ?_⟩) (by first | exact fun _ => by assumption | exact fun h => absurd h (by decide)) ?_
                    rotate_left 1
                    · (intro wS hSw; (try dsimp only at hSw); go_simp; try with_reducible rfl)
                    try simp only [List.getElem_toArray, List.getElem_cons_zero, List.getElem_cons_succ, Act.put, List.setIfInBounds_toArray, List.set_cons_zero, List.set_cons_succ]
                    refine wpAnyK_ready (rs := [14]) (by kernel_rfl) (by simp) ?_
                    refine AllReadyK.cons rfl (fun KK hK => ?_) AllReadyK.nil
                    go_simp
                    refine shutK_off hK (by decide) ?_
                    clear hK KK
                    try simp only [List.getElem_toArray, List.getElem_cons_zero, List.getElem_cons_succ, Act.put, List.setIfInBounds_toArray, List.set_cons_zero, List.set_cons_succ]
                    refine wpk_world (fun W4 hW4 => ?_)
                    have gs4 : W4.heap[W2.heap.size]? = some (.cells #[strV [122, 122, b1, b2]] 9 (0, 0)) := by rw [hW4]; exact blk_new (w := W2) rfl
                    have q4 : Below W2.heap.size W2 W4 := by rw [hW4]; exact (Below.refl _ _).alloc (Nat.le_refl _) (.cells #[strV [122, 122, b1, b2]] 9)
                    have ho4 := ho2.below q4
                    have gu4 := blk_below (show Below W2.heap.size W2 W4 by rw [hW4]; exact (Below.refl _ _).alloc (Nat.le_refl _) _) (lt_of_blk gu2) gu2
                    clear hW4
                    have hr15 : Reads W4 1 (.slice (some ⟨_, 0, none⟩) 1 1) [[122, 122, b1, b2]].length ([[122, 122, b1, b2]].flatMap encS) := reads_block (xs := [strV [122, 122, b1, b2]]) gs4 rfl
                    refine wpAnyK_ready (rs := [15]) (by kernel_rfl) (by simp) ?_
                    refine AllReadyK.cons rfl (fun KK hK => ?_) AllReadyK.nil
                    refine wp_append_m (.tmp 59) (.tmp 71) 28 rfl D 9 (.string ⟨#[]⟩) 1 16 encS (fun _ => rfl) encS_one Tryz.underlying28 infoS rfl (by decide) (by decide) (wA := wA) (v := v1) (A := T) (B := [[122, 122, b1, b2]]) rfl (ho4) rfl (hr15) (by first | omega | (simp; done) | (simp; omega)) ?_
                    intro v2 W15 ho15 _
                    obtain ⟨av2, cv2, rfl⟩ := own_slice ho15.1
                    rw [List.length_append, List.length_singleton] at ho15
                    have hy15 := (KB.out.moved ho15.2).y
                    obtain ⟨c0, c1, c2⟩ := cells3 hy15
                    obtain ⟨f0, f1, f2⟩ := free3 hy15
                    have hlt15 := lt_of_blk hy15
                    have HO15 := Lib.hid ho15
                    clear ho15 hy15
                    refine shutK_off hK (by decide) ?_
                    clear hK KK
                    try simp only [List.getElem_toArray, List.getElem_cons_zero, List.getElem_cons_succ, Act.put, List.setIfInBounds_toArray, List.set_cons_zero, List.set_cons_succ]
                    refine wpAnyK_ready (rs := [16]) (by kernel_rfl) (by simp) ?_
                    refine AllReadyK.cons rfl (fun K hK => ?_) AllReadyK.nil
                    go_simp
                    skip
                    refine shutK_off hK (by decide) ?_
                    clear hK K
                    try simp only [List.getElem_toArray, List.getElem_cons_zero, List.getElem_cons_succ, Act.put, List.setIfInBounds_toArray, List.set_cons_zero, List.set_cons_succ]
                    refine wpAnyK_ready (rs := [17]) (by kernel_rfl) (by simp) ?_
                    refine AllReadyK.cons rfl (fun K hK => ?_) AllReadyK.nil
                    go_simp
                    skip
                    refine shutK_off hK (by decide) ?_
                    clear hK K
                    try simp only [List.getElem_toArray, List.getElem_cons_zero, List.getElem_cons_succ, Act.put, List.setIfInBounds_toArray, List.set_cons_zero, List.set_cons_succ]
                    refine wpAnyK_done (by kernel_rfl) ?_ _
                    refine NoPanic.normal ?_
                    go_wp2_with fail
                    go_roundw
                    case rel => exact ⟨k + 1, _, T ++ [[122, 122, b1, b2]], by go_num, by omega, by rw [List.length_append, List.length_singleton]; omega, KB.out.setT HO15.out (by rw [List.length_append, List.length_singleton]; omega)⟩
                    case measure => simp [intOf]; omega
                  · have hcv2 := bytes_two W1 _ b1 b2 gu1
                    go_simp
                    clear hcv2
                    refine shutK hK ((bb1.cell (p := ⟨w1.heap.size, 0, none⟩) zY).trans c0) (fun hHeld => ?_)
                    clear hK KK
                    try simp only [List.getElem_toArray, List.getElem_cons_zero, List.getElem_cons_succ, Act.put, List.setIfInBounds_toArray, List.set_cons_zero, List.set_cons_succ]
                    refine wpAnyK_take0 (i := 13) (v := ?_) rfl (by kernel_rfl) (by kernel_rfl) (by kernel_rfl) (by decide) (fun _ _ _ h => h) (Or.inl ⟨by rfl, ?_⟩) (by first | exact fun _ => by assumption | exact fun h => absurd h (by decide)) ?_
                    rotate_left 1
                    · (intro wS hSw; (try dsimp only at hSw); go_simp; try with_reducible rfl)
                    try simp only [List.getElem_toArray, List.getElem_cons_zero, List.getElem_cons_succ, Act.put, List.setIfInBounds_toArray, List.set_cons_zero, List.set_cons_succ]
                    refine wpAnyK_ready (rs := [2, 14]) (by kernel_rfl) (by simp) ?_
                    refine AllReadyK.cons rfl (fun KK hK => ?_) (AllReadyK.cons rfl (fun KK hK => ?_) AllReadyK.nil)
                    · refine wp_append_m (.const (.slice none 0 0)) (.tmp 58) 28 rfl D 9 (.string ⟨#[]⟩) 1 16 encS (fun _ => rfl) encS_one Tryz.underlying28 infoS rfl (by decide) (by decide) (wA := wA) (v := .slice none 0 0) (A := []) (B := T) rfl (OwnM.nil ((Moved.start KB.out.m.deck).below bb1)) rfl (RLBh.out _ bb1) (by first | omega | (simp; done) | (simp; omega)) ?_
                      intro v1 W3 ho3 hk3
                      rw [List.nil_append] at ho3
                      refine shutK_off hK (by decide) ?_
                      clear hK KK
                      try simp only [List.getElem_toArray, List.getElem_cons_zero, List.getElem_cons_succ, Act.put, List.setIfInBounds_toArray, List.set_cons_zero, List.set_cons_succ]
                      have gu3 := hk3 _ _ (by simp [Value.ownBlock]) gu1
                      refine wpAnyK_ready (rs := [14]) (by kernel_rfl) (by simp) ?_
                      refine AllReadyK.cons rfl (fun KK hK => ?_) AllReadyK.nil
                      go_simp
                      refine shutK_off hK (by decide) ?_
                      clear hK KK
                      try simp only [List.getElem_toArray, List.getElem_cons_zero, List.getElem_cons_succ, Act.put, List.setIfInBounds_toArray, List.set_cons_zero, List.set_cons_succ]
                      refine wpk_world (fun W4 hW4 => ?_)
                      have gs4 : W4.heap[W3.heap.size]? = some (.cells #[strV [122, 122, b1, b2]] 9 (0, 0)) := by rw [hW4]; exact blk_new (w := W3) rfl
                      have q4 : Below W3.heap.size W3 W4 := by rw [hW4]; exact (Below.refl _ _).alloc (Nat.le_refl _) (.cells #[strV [122, 122, b1, b2]] 9)
                      have ho4 := ho3.below q4
                      have gu4 := blk_below (show Below W3.heap.size W3 W4 by rw [hW4]; exact (Below.refl _ _).alloc (Nat.le_refl _) _) (lt_of_blk gu3) gu3
                      clear hW4
                      have hr15 : Reads W4 1 (.slice (some ⟨_, 0, none⟩) 1 1) [[122, 122, b1, b2]].length ([[122, 122, b1, b2]].flatMap encS) := reads_block (xs := [strV [122, 122, b1, b2]]) gs4 rfl
                      refine wpAnyK_ready (rs := [15]) (by kernel_rfl) (by simp) ?_
                      refine AllReadyK.cons rfl (fun KK hK => ?_) AllReadyK.nil
                      refine wp_append_m (.tmp 59) (.tmp 71) 28 rfl D 9 (.string ⟨#[]⟩) 1 16 encS (fun _ => rfl) encS_one Tryz.underlying28 infoS rfl (by decide) (by decide) (wA := wA) (v := v1) (A := T) (B := [[122, 122, b1, b2]]) rfl (ho4) rfl (hr15) (by first | omega | (simp; done) | (simp; omega)) ?_
                      intro v2 W15 ho15 _
                      obtain ⟨av2, cv2, rfl⟩ := own_slice ho15.1
                      rw [List.length_append, List.length_singleton] at ho15
                      have hy15 := (KB.out.moved ho15.2).y
                      obtain ⟨c0, c1, c2⟩ := cells3 hy15
                      obtain ⟨f0, f1, f2⟩ := free3 hy15
                      have hlt15 := lt_of_blk hy15
                      have HO15 := Lib.hid ho15
                      clear ho15 hy15
                      refine shutK_off hK (by decide) ?_
                      clear hK KK
                      try simp only [List.getElem_toArray, List.getElem_cons_zero, List.getElem_cons_succ, Act.put, List.setIfInBounds_toArray, List.set_cons_zero, List.set_cons_succ]
                      refine wpAnyK_ready (rs := [16]) (by kernel_rfl) (by simp) ?_
                      refine AllReadyK.cons rfl (fun K hK => ?_) AllReadyK.nil
                      go_simp
                      skip
                      refine shutK_off hK (by decide) ?_
                      clear hK K
                      try simp only [List.getElem_toArray, List.getElem_cons_zero, List.getElem_cons_succ, Act.put, List.setIfInBounds_toArray, List.set_cons_zero, List.set_cons_succ]
                      refine wpAnyK_ready (rs := [17]) (by kernel_rfl) (by simp) ?_
                      refine AllReadyK.cons rfl (fun K hK => ?_) AllReadyK.nil
                      go_simp
                      skip
                      refine shutK_off hK (by decide) ?_
                      clear hK K
                      try simp only [List.getElem_toArray, List.getElem_cons_zero, List.getElem_cons_succ, Act.put, List.setIfInBounds_toArray, List.set_cons_zero, List.set_cons_succ]
                      refine wpAnyK_done (by kernel_rfl) ?_ _
                      refine NoPanic.normal ?_
                      go_wp2_with fail
                      go_roundw
                      case rel => exact ⟨k + 1, _, T ++ [[122, 122, b1, b2]], by go_num, by omega, by rw [List.length_append, List.length_singleton]; omega, KB.out.setT HO15.out (by rw [List.length_append, List.length_singleton]; omega)⟩
                      case measure => simp [intOf]; omega
                    · go_simp
                      refine shutK hK ((bb1.alloc (by have := bb1.size; omega) (.cells #[strV [122, 122, b1, b2]] 9)).cell (p := ⟨w1.heap.size, 0, none⟩) zY |>.trans c0) (fun hHeld => ?_)
                      clear hK KK
                      try simp only [List.getElem_toArray, List.getElem_cons_zero, List.getElem_cons_succ, Act.put, List.setIfInBounds_toArray, List.set_cons_zero, List.set_cons_succ]
                      refine wpk_world (fun W3 hW3 => ?_)
                      have gs3 : W3.heap[W1.heap.size]? = some (.cells #[strV [122, 122, b1, b2]] 9 (0, 0)) := by rw [hW3]; exact blk_new (w := W1) rfl
                      have bb3 : Below wA.heap.size wA W3 := by rw [hW3]; exact bb1.alloc (by have := bb1.size; omega) (.cells #[strV [122, 122, b1, b2]] 9)
                      have gu3 := blk_below (show Below W1.heap.size W1 W3 by rw [hW3]; exact (Below.refl _ _).alloc (Nat.le_refl _) _) (lt_of_blk gu1) gu1
                      clear hW3
                      have hHeld : W3.cell? ⟨w1.heap.size, 0, none⟩ = some (.slice atT T.length ctT) := (bb3.cell (p := ⟨w1.heap.size, 0, none⟩) zY).trans c0
                      refine wpAnyK_ready (rs := [2]) (by kernel_rfl) (by simp) ?_
                      refine AllReadyK.cons rfl (fun KK hK => ?_) AllReadyK.nil
                      refine wp_append_m (.const (.slice none 0 0)) (.tmp 58) 28 rfl D 9 (.string ⟨#[]⟩) 1 16 encS (fun _ => rfl) encS_one Tryz.underlying28 infoS rfl (by decide) (by decide) (wA := wA) (v := .slice none 0 0) (A := []) (B := T) rfl (OwnM.nil ((Moved.start KB.out.m.deck).below bb3)) rfl (RLBh.out _ bb3) (by first | omega | (simp; done) | (simp; omega)) ?_
                      intro v1 W4 ho4 hk4
                      rw [List.nil_append] at ho4
                      refine shutK_off hK (by decide) ?_
                      clear hK KK
                      try simp only [List.getElem_toArray, List.getElem_cons_zero, List.getElem_cons_succ, Act.put, List.setIfInBounds_toArray, List.set_cons_zero, List.set_cons_succ]
                      have gu4 := hk4 _ _ (by simp [Value.ownBlock]) gu3
                      have gs4 := hk4 _ _ (by simp [Value.ownBlock]) gs3
                      have hr15 : Reads W4 1 (.slice (some ⟨_, 0, none⟩) 1 1) [[122, 122, b1, b2]].length ([[122, 122, b1, b2]].flatMap encS) := reads_block (xs := [strV [122, 122, b1, b2]]) gs4 rfl
                      refine wpAnyK_ready (rs := [15]) (by kernel_rfl) (by simp) ?_
                      refine AllReadyK.cons rfl (fun KK hK => ?_) AllReadyK.nil
                      refine wp_append_m (.tmp 59) (.tmp 71) 28 rfl D 9 (.string ⟨#[]⟩) 1 16 encS (fun _ => rfl) encS_one Tryz.underlying28 infoS rfl (by decide) (by decide) (wA := wA) (v := v1) (A := T) (B := [[122, 122, b1, b2]]) rfl (ho4) rfl (hr15) (by first | omega | (simp; done) | (simp; omega)) ?_
                      intro v2 W15 ho15 _
                      obtain ⟨av2, cv2, rfl⟩ := own_slice ho15.1
                      rw [List.length_append, List.length_singleton] at ho15
                      have hy15 := (KB.out.moved ho15.2).y
                      obtain ⟨c0, c1, c2⟩ := cells3 hy15
                      obtain ⟨f0, f1, f2⟩ := free3 hy15
                      have hlt15 := lt_of_blk hy15
                      have HO15 := Lib.hid ho15
                      clear ho15 hy15
                      refine shutK_off hK (by decide) ?_
                      clear hK KK
                      try simp only [List.getElem_toArray, List.getElem_cons_zero, List.getElem_cons_succ, Act.put, List.setIfInBounds_toArray, List.set_cons_zero, List.set_cons_succ]
                      refine wpAnyK_ready (rs := [16]) (by kernel_rfl) (by simp) ?_
                      refine AllReadyK.cons rfl (fun K hK => ?_) AllReadyK.nil
                      go_simp
                      skip
                      refine shutK_off hK (by decide) ?_
                      clear hK K
                      try simp only [List.getElem_toArray, List.getElem_cons_zero, List.getElem_cons_succ, Act.put, List.setIfInBounds_toArray, List.set_cons_zero, List.set_cons_succ]
                      refine wpAnyK_ready (rs := [17]) (by kernel_rfl) (by simp) ?_
                      refine AllReadyK.cons rfl (fun K hK => ?_) AllReadyK.nil
                      go_simp
                      skip
                      refine shutK_off hK (by decide) ?_
                      clear hK K
                      try simp only [List.getElem_toArray, List.getElem_cons_zero, List.getElem_cons_succ, Act.put, List.setIfInBounds_toArray, List.set_cons_zero, List.set_cons_succ]
                      refine wpAnyK_done (by kernel_rfl) ?_ _
                      refine NoPanic.normal ?_
                      go_wp2_with fail
                      go_roundw
                      case rel => exact ⟨k + 1, _, T ++ [[122, 122, b1, b2]], by go_num, by omega, by rw [List.length_append, List.length_singleton]; omega, KB.out.setT HO15.out (by rw [List.length_append, List.length_singleton]; omega)⟩
                      case measure => simp [intOf]; omega
              · have hq : decide ((k : Int) < 32 + p) = false := by simpa using hlt
                clear hlt
                go_wp2_with fail
                go_meet
                exact ⟨_, _, _, _, KB.out⟩
          · have e3 : (q == 3) = false := by simpa using h3
            clear h0 h1 h2 h3
            go_wp2_with fail
            go_meet
            exact ⟨_, _, _, _, K1.out⟩
  case rest =>
    obtain ⟨vt, vn, vs, r, hm⟩ := hcut
    obtain ⟨at', ct, rfl⟩ := hm.ru.1.slice
    obtain ⟨an, cn, rfl⟩ := hm.ru.2.1.slice
    obtain ⟨as', cs, rfl⟩ := hm.ru.2.2.slice
    have KM := Lib.hid hm
    obtain ⟨c0, c1, c2⟩ := cells3 hm.y
    obtain ⟨d0, d1, d2⟩ := cells3 hm.z; obtain ⟨g0, g1, g2⟩ := free3 hm.z
    have q' := lt_of_blk hm.z
    clear hm K1 HFw
    go_wp2_with fail
    have hz := blk_set (i := 2) (v := .slice as' r.streets.length cs) (blk_set (i := 1) (v := .slice an r.nicks.length cn) (blk_set (i := 0) (v := .slice at' r.titles.length ct) KM.out.z))
    have hm := ((KM.out.m.set (a := ⟨w.heap.size, 0, none⟩) (Nat.le_refl _) (.slice at' r.titles.length ct)).set (a := ⟨w.heap.size, 1, none⟩) (Nat.le_refl _) (.slice an r.nicks.length cn)).set (a := ⟨w.heap.size, 2, none⟩) (Nat.le_refl _) (.slice as' r.streets.length cs)
    have hr := KM.out.ru.set3 (a := ⟨w.heap.size, 0, none⟩) (b := ⟨w.heap.size, 1, none⟩) (c := ⟨w.heap.size, 2, none⟩) (fun b h => by simp at h ⊢; omega) (fun b h => by simp at h ⊢; omega) (fun b h => by simp at h ⊢; omega) (.slice at' r.titles.length ct) (.slice an r.nicks.length cn) (.slice as' r.streets.length cs)
    exact bodyPost_row1 rfl rfl hz Tryz.underlying31 rfl (by kernel_rfl) ⟨_, _, _, r, rfl, hr.weaken fun b h => by have h' : w.heap.size < b := h.1; show w.heap.size ≤ b; omega, KM.out.few, hm⟩
end Go.Proofs.YtfgoiojmbphmnaaGreatDoor
end
