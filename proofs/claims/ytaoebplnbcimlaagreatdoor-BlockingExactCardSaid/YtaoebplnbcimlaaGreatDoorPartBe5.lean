/- Parts of one proof: BlkF, EncD, RecA, BlkG, BlkH, BlkI, EncF, EncE, EncG, EncLaw, BlkJ, BlkK, BlkL, RecAll, BlkN, DeckKey, RefTextA, RefTextB, FoldPlain, RefTextC, RefTextD, RefTextE, RefNameA, RefNameB. -/
import Derived.Test.YtaoebplnbcimlaaGreatDoorPartBe4
set_option linter.unusedSimpArgs false
set_option linter.unusedVariables false
namespace Go.Proofs.YtaoebplnbcimlaaGreatDoor
section
set_option maxRecDepth 100000
open Go.RowKit
attribute [local go_sem] toList_mk mk_size str_append
def compN (vals : List (List UInt8)) (c : Int × Int) : List UInt8 := partN c.2 (vals.getD c.1.toNat [])
def blkLabel (t : List UInt8) : List UInt8 := [98, 108, 111, 99, 107] ++ t
def bhashN (k : Int × Int) (i : Nat) (L : List (List UInt8)) : Int × Bool := if hasB L [] = true then (0, false) else (partsP (deriveP k.1 k.2 (blkLabel (Lib.decDigits i))).1 (deriveP k.1 k.2 (blkLabel (Lib.decDigits i))).2 L, true)
structure CompsOk (K : List (Int × Int)) (vals : List (List UInt8)) : Prop where
  len : K.length ≤ 3
  fit : ∀ c ∈ K, 0 ≤ c.1 ∧ c.1 < vals.length ∧ (1 ≤ c.2 ∧ c.2 ≤ 5) ∧ (vals.getD c.1.toNat []).length ≤ 1000 ∧ (c.2 = 2 ∨ c.2 = 5 → ascii (vals.getD c.1.toNat []))
  short : ∀ c ∈ K, (compN vals c).length ≤ 60000
theorem oneB6 : ∀ x : List UInt8, ∀ u ∈ encS x, u.oneCell' = true := by intro x u hu; simp [encS] at hu; subst hu; rfl
set_option maxHeartbeats 8000000 in
theorem bhash_yes (T : Nat → Prop) (k : Int × Int) (kv : Value) (K : List (Int × Int)) (i : Nat) (id ver : Int) (sv : Value) (vals : List (List UInt8)) (w : World) (hk : Vec w T 2 encC kv K) (hv : Vec w Any1 1 encS sv vals) (hn : vals.length ≤ 1000000) (ok : CompsOk K vals) (hi : i < 100) :
    Calls Tryz.prog 64 #[.agg #[.int .u64 k.1, .int .u64 k.2], .agg #[kv], .int .i64 i, .agg #[.int .i64 id, .int .i64 ver, sv]] w fun e w' => e = .returned (.tuple #[.int .u64 (bhashN k i (K.map (compN vals))).1, .bool (bhashN k i (K.map (compN vals))).2]) ∧ Below w.heap.size w w' := by
  obtain ⟨ak, ck, rfl⟩ := hk.slice
  obtain ⟨av, cv, rfl⟩ := hv.slice
  obtain ⟨L, hL⟩ : ∃ L, K.map (compN vals) = L := ⟨_, rfl⟩
  have hLl : L.length = K.length := by rw [← hL]; simp
  have hLs : ∀ x ∈ L, x.length ≤ 60000 := by rw [← hL]; intro x hx; obtain ⟨c, hc, rfl⟩ := List.mem_map.1 hx; exact ok.short c hc
  have hL3 : L.length ≤ 3 := by rw [hLl]; exact ok.len
  have hK3 := ok.len
  obtain ⟨⟨h0, b0⟩, hR⟩ : ∃ R, bhashN k i L = R := ⟨_, rfl⟩
  rw [hL, hR]
  have HK := Lib.hid hk; have HV := Lib.hid hv; have HOk := Lib.hid ok; have HL := Lib.hid hL; have HLl := Lib.hid hLl; have HLs := Lib.hid hLs; have HR := Lib.hid hR
  clear hk hv ok hL hLl hLs hR
  go_enter Tryz.func64, Tryz.ntmps64
  go_wp2_with fail
  refine wp_world (fun W hW => ?_)
  have hb0 : Below w.heap.size w W := by rw [hW]; exact (((Below.refl w.heap.size w).alloc (Nat.le_refl _) _).alloc (by simp) _).alloc (by simp; omega) _
  have hk0 : W.heap[w.heap.size]? = some (.cells #[.int .u64 k.1, .int .u64 k.2] 26 (0, 0)) := by rw [hW]; exact blk_old (blk_old (blk_new rfl))
  have hr0 : W.heap[w.heap.size + 2]? = some (.cells #[.int .i64 id, .int .i64 ver, .slice av vals.length cv] 29 (0, 0)) := by rw [hW]; exact blk_new (by simp)
  clear hW
  have HB0 := Lib.hid hb0; have HK0 := Lib.hid hk0; have HR0 := Lib.hid hr0
  clear hb0 hk0 hr0
  go_loopw [10, 16] (fun v j wr => ∃ n : Nat, j = .int .i64 n ∧ n ≤ K.length ∧ OwnV 9 1 encS W v (L.take n) wr) (fun _ j _ => K.length - (intOf j).toNat)
  case atStart => exact ⟨0, rfl, by omega, OwnV.start _ _ _ _⟩
  case round =>
    obtain ⟨n, rfl, hnK, ho⟩ := hrel
    obtain ⟨P, hP⟩ : ∃ P, L.take n = P := ⟨_, rfl⟩
    have hPl : P.length ≤ 3 := by rw [← hP, List.length_take]; omega
    rw [hP] at ho
    have HP := Lib.hid hP
    have HO := Lib.hid ho
    obtain ⟨ao, co, rfl⟩ := own_slice ho.1
    have hbw := ho.2
    clear ho hP
    by_cases hlt : n < K.length
    · have hq : decide ((n : Int) < (K.length : Int)) = true := by simp; omega
      have hji : (n : Int) < (K.length : Int) := by omega
      have hbw0 := HB0.out.trans (hbw.mono HB0.out.size)
      obtain ⟨b, off, rfl, lb, hc⟩ := (HK.out.below hbw0).get n hlt
      have c0 := hc 0 _ rfl; have c1 := hc 1 _ rfl
      obtain ⟨⟨f, t⟩, hx⟩ : ∃ x, K[n] = x := ⟨_, rfl⟩
      obtain ⟨hf0, hfv, ht, hln, has⟩ := HOk.out.fit K[n] (List.getElem_mem hlt)
      have hnL : n < L.length := by rw [HLl.out]; exact hlt
      have hxL : L[n] = compN vals (f, t) := by rw [← hx]; simp only [← HL.out, List.getElem_map]
      rw [hx] at c0 c1 hf0 hfv ht hln has
      dsimp only at c0 c1 hf0 hfv ht hln has
      rw [Nat.add_zero] at c0
      obtain ⟨fn, rfl⟩ : ∃ fn : Nat, f = fn := ⟨f.toNat, by omega⟩
      have hfn : fn < vals.length := by omega
      obtain ⟨y, hy⟩ : ∃ y, partN t (vals.getD fn []) = y := ⟨_, rfl⟩
      have hxy : L[n] = y := by rw [hxL, ← hy]; rfl
      have hts : L.take (n + 1) = P ++ [y] := by rw [List.take_succ_eq_append_getElem hnL, hxy, HP.out]
      have HTs := Lib.hid hts; have HY := Lib.hid hy; have HAs := Lib.hid has
      have hln2 : (vals.getD fn []).length ≤ 1000 := hln
      have hr1 := blk_below hbw (lt_of_blk HR0.out) HR0.out
      obtain ⟨r0, r1, r2⟩ := cells3 hr1
      have lr := lt_of_blk hr1
      have HBW := Lib.hid hbw
      have HVW := Lib.hid (HV.out.below hbw0)
      clear hc hx hxL hxy hts hy has hln hr1 hbw hbw0
      go_wp2_with fail
      refine wp_calls_world (fun Wc hWc => ?_)
      have hbc : Below wr.heap.size wr Wc := by rw [hWc]; exact (Below.refl wr.heap.size wr).alloc (Nat.le_refl _) _
      clear hWc
      refine (part_yes fn t id ver _ vals Wc (HVW.out.below hbc) hfn hn ht hln2 HAs.out).mono ?_
      rw [HY.out]
      rintro e w2 ⟨rfl, hb⟩
      have hb2 := hbc.trans (hb.mono hbc.size)
      have HO1 := Lib.hid ((HO.out.below hb2).below ((Below.refl w2.heap.size w2).alloc (Nat.le_refl _) (.cells #[strV y] 9)))
      have HR1 := Lib.hid (show Reads (w2.alloc (.cells #[strV y] 9)) 1 (.slice (some ⟨w2.heap.size, 0, none⟩) 1 1) [y].length ([y].flatMap encS) from reads_block (t := 9) (fr := (0, 0)) (blk_new rfl) rfl)
      have hcn : P.length + [y].length ≤ 1000000000 := by simp only [List.length_cons, List.length_nil]; omega
      clear hb hbc hb2
      go_wp2_with (at_builtin; refine wpList_append_v rfl (.tmp 20) (.tmp 24) 27 rfl 9 (.string ⟨#[]⟩) 1 16 encS (fun _ => rfl) oneB6 Tryz.underlying27 infoS rfl (by decide) (by decide) (w0 := W) (v := .slice ao P.length co) (A := P) (B := [y]) rfl HO1.out rfl HR1.out hcn ?_; intro v3 w3 ho3 hk3 hz3)
      go_roundw
      case rel => exact ⟨n + 1, by go_num, by omega, by rw [HTs.out]; exact ho3⟩
      case measure => simp [intOf]; omega
    · have hq : decide ((n : Int) < (K.length : Int)) = false := by simp; omega
      have htk : L.take n = L := List.take_of_length_le (by have := HLl.out; omega)
      have hPL : P = L := by rw [← HP.out]; exact htk
      subst hPL
      clear HP htk
      have HVL := Lib.hid (OwnV.vec (size := 1) (enc := encS) (fun _ => rfl) HO.out)
      have hk1 := blk_below HO.out.2 (lt_of_blk HK0.out) HK0.out
      obtain ⟨k0, k1⟩ := cells2K hk1
      have lk := lt_of_blk hk1
      cases hhas : hasB P []
      · have hR2 := HR.out
        unfold bhashN at hR2
        rw [if_neg (by rw [hhas]; decide)] at hR2
        have hd := digs_len i hi
        have hit := fun w => Tryz.strconv_Itoa_small i hi w
        obtain ⟨tt, ht⟩ : ∃ t, Lib.decDigits i = t := ⟨_, rfl⟩
        rw [ht] at hd hit hR2
        obtain ⟨ft, hft⟩ : ∃ ft, blkLabel tt = ft := ⟨_, rfl⟩
        have hf5 : 98 :: 108 :: 111 :: 99 :: 107 :: tt = ft := hft
        have hfl : ft.length ≤ 60000 := by rw [← hft]; simp [blkLabel]; omega
        rw [hft] at hR2
        obtain ⟨x, hx⟩ : ∃ x, deriveP k.1 k.2 ft = x := ⟨_, rfl⟩
        rw [hx] at hR2
        obtain ⟨e1, e2⟩ := Prod.mk.inj hR2
        subst e2
        have hl1 : ¬ 9223372036854775807 < 5 + tt.length := by omega
        have HIt := Lib.hid hit; have HHas := Lib.hid hhas; have HX := Lib.hid hx; have HE := Lib.hid e1
        clear hR2 hhas hit ht hft hx e1
        go_wp2_with fail
        refine (contains_any _ _ P [] _ HVL.out (by omega)).mono ?_
        rw [HHas.out]
        rintro e w2 ⟨rfl, rfl⟩
        go_wp2_with fail
        have bD : Below wr.heap.size wr wr.drew := (Below.refl _ _).drew
        refine wp_region_noPanic ?_
        refine wp_region_held_drew (S := (fun w' => w'.cell? ⟨w.heap.size, 0, none⟩ = some (.int .u64 k.1) ∧ w'.cell? ⟨w.heap.size, 1, none⟩ = some (.int .u64 k.2))) (by kernel_rfl) (⟨k0, k1⟩) (fun hHeld => ?_)
        refine tH 0 (h := ?_)
        refine tH 1 (h := ?_)
        refine tH 5 (h := ?_)
        refine wpAnyH_ready (rs := [2]) (by kernel_rfl) (by simp) ?_
        refine AllReadyH.cons rfl (fun K hK => ?_) AllReadyH.nil
        go_simp
        refine (HIt.out _).mono ?_; rintro e wq ⟨rfl, rfl⟩
        refine hK.out _ _ (⟨k0, k1⟩) (fun hHeld => ?_)
        clear hK K
        try simp only [List.getElem_toArray, List.getElem_cons_zero, List.getElem_cons_succ, Act.put, List.setIfInBounds_toArray, List.set_cons_zero, List.set_cons_succ]
        refine tH 3 (h := ?_)
        refine wpAnyH_ready (rs := [4]) (by kernel_rfl) (by simp) ?_
        refine AllReadyH.cons rfl (fun K hK => ?_) AllReadyH.nil
        go_simp
        refine (sderive_any k.1 k.2 ft _ hfl).mono ?_; rw [HX.out]; rintro e w3 ⟨rfl, hb⟩; have b3 := bD.trans hb; clear hb
        refine hK.out _ _ (⟨(b3.cell (p := ⟨w.heap.size, 0, none⟩) lk).trans k0, (b3.cell (p := ⟨w.heap.size, 1, none⟩) lk).trans k1⟩) (fun hHeld => ?_)
        clear hK K
        try simp only [List.getElem_toArray, List.getElem_cons_zero, List.getElem_cons_succ, Act.put, List.setIfInBounds_toArray, List.set_cons_zero, List.set_cons_succ]
        refine wpAnyH_ready (rs := [6]) (by kernel_rfl) (by simp) ?_
        refine AllReadyH.cons rfl (fun K hK => ?_) AllReadyH.nil
        go_simp
        refine (sparts_any (fun b => W.heap.size ≤ b) x.1 x.2 _ P _ (HVL.out.below b3) HLs.out (by omega)).mono ?_; rw [HE.out]; rintro e w4 ⟨rfl, hb⟩; have b4 := b3.trans (hb.mono b3.size); clear hb
        refine hK.out _ _ (⟨(b4.cell (p := ⟨w.heap.size, 0, none⟩) lk).trans k0, (b4.cell (p := ⟨w.heap.size, 1, none⟩) lk).trans k1⟩) (fun hHeld => ?_)
        clear hK K
        try simp only [List.getElem_toArray, List.getElem_cons_zero, List.getElem_cons_succ, Act.put, List.setIfInBounds_toArray, List.set_cons_zero, List.set_cons_succ]
        refine tH 7 (h := ?_)
        refine tH 8 (h := ?_)
        refine wpAnyH_done (by kernel_rfl) ?_ _
        refine NoPanic.normal ?_
        go_wp2_with fail
        go_ret2
        exact ⟨rfl, HB0.out.trans ((HO.out.2.trans (b4.mono HO.out.2.size)).mono HB0.out.size)⟩
      · have hR2 := HR.out
        unfold bhashN at hR2
        rw [if_pos hhas] at hR2
        obtain ⟨e1, e2⟩ := Prod.mk.inj hR2
        subst e1 e2
        have HHas := Lib.hid hhas
        clear hR2 hhas
        go_wp2_with fail
        refine (contains_any _ _ P [] _ HVL.out (by omega)).mono ?_
        rw [HHas.out]
        rintro e w2 ⟨rfl, rfl⟩
        go_wp2_with fail
        go_ret2
        exact ⟨rfl, HB0.out.trans (HO.out.2.mono HB0.out.size)⟩
end
section
set_option maxRecDepth 100000
open Go.RowKit Cal
attribute [local go_sem] toList_mk mk_size str_append
theorem BitsVec.slice {w : World} {S : Nat → Prop} {v : Value} {L : List BitsL} (h : BitsVec w S v L) : ∃ a cap, v = .slice a L.length cap := by
  obtain ⟨C, hv, hc⟩ := h
  obtain ⟨a, cap, rfl⟩ := hv.slice
  exact ⟨a, cap, by rw [hc.1]⟩
theorem BitsVec.below {w w' : World} {S : Nat → Prop} {v : Value} {L : List BitsL} (h : BitsVec w S v L) (hb : Below w.heap.size w w') : BitsVec w' S v L := by
  obtain ⟨C, hv, hc⟩ := h; exact ⟨C, hv.below hb, hc.below hb⟩
theorem BitsVec.move {w w' : World} {S T : Nat → Prop} {v : Value} {L : List BitsL} (h : BitsVec w S v L) (hz : w.heap.size ≤ w'.heap.size) (hS : ∀ x, x < w.heap.size → S x → w'.heap[x]? = w.heap[x]? ∧ T x) : BitsVec w' T v L := by
  obtain ⟨C, hv, hc⟩ := h; exact ⟨C, hv.move hz hS, hc.move hz hS⟩
/-- an encoded record in memory: its three cells -/
def EncVal (w : World) (S : Nat → Prop) (v : Value) (e : EncL) : Prop := ∃ s, v = .agg #[.int .i64 e.id, .int .i64 e.ver, s] ∧ BitsVec w S s e.fields
/-- what encoding needs -/
structure EncIn (s : SchemaL) (P : List ParL) (vals : List (List UInt8)) : Prop where
  len : P.length = vals.length
  five : P.length ≤ 5
  fld : ∀ i, i < P.length → FieldIn s (P.getD i default) vals i
end
section
set_option maxRecDepth 100000
open Go.RowKit Cal
attribute [local go_sem] toList_mk mk_size str_append
set_option maxHeartbeats 1000000 in
theorem numbered_any (i v : Int) (w : World) :
    Calls Tryz.prog 166 #[.int .i64 i, .int .i64 v] w fun e w' => e = .returned (.bool (numberedB i v)) ∧ w = w' := by
  unfold numberedB
  cases e1 : decide ((1 : Int) ≤ i)
  · go_enter Tryz.func166, Tryz.ntmps166
    go_wp2_with fail
    go_ret
    exact ⟨rfl, rfl⟩
  · cases e2 : decide (i ≤ (1048576 : Int))
    · go_enter Tryz.func166, Tryz.ntmps166
      go_wp2_with fail
      go_ret
      exact ⟨rfl, rfl⟩
    · cases e3 : decide ((1 : Int) ≤ v)
      · go_enter Tryz.func166, Tryz.ntmps166
        go_wp2_with fail
        go_ret
        exact ⟨rfl, rfl⟩
      · go_enter Tryz.func166, Tryz.ntmps166
        go_wp2_with fail
        go_ret
        exact ⟨rfl, rfl⟩
set_option maxHeartbeats 4000000 in
theorem rchk_any (S : Nat → Prop) (vf vt vn vs : Value) (s : SchemaL) (r : RecL) (sv : Value) (w : World) (h : SchemaAt w S vf vt vn vs s) (hv : Vec w Any1 1 encS sv r.vals) (hs : ∀ x ∈ r.vals, x.length ≤ 1000000) (hn : r.vals.length ≤ 1000000) :
    Calls Tryz.prog 110 #[.agg #[vf, vt, vn, vs], .agg #[.int .i64 r.id, .int .i64 r.ver, sv]] w fun e w' => e = .returned (.int .i64 (checkI s r)) ∧ Below w.heap.size w w' := by
  obtain ⟨a, cap, rfl⟩ := hv.slice
  obtain ⟨af, cf, rfl⟩ := h.1.slice
  obtain ⟨id, ver, vals⟩ := r
  dsimp only at hv hs hn ⊢
  have hval : checkI s ⟨id, ver, vals⟩ = if (numberedB id ver && (vals.length == s.fields.length) && normA s 0 vals) = true then 0 else 7 := rfl
  obtain ⟨c, hc⟩ : ∃ c, checkI s ⟨id, ver, vals⟩ = c := ⟨_, rfl⟩
  rw [hc] at hval ⊢
  have HV := Lib.hid hv; have HSh := Lib.hid hs; have HS := Lib.hid h.any; have HVal := Lib.hid hval
  clear hv hs h hval hc
  cases hnum : numberedB id ver
  · have h7 : c = 7 := by rw [HVal.out, hnum]; rfl
    subst h7
    have HN := Lib.hid hnum; clear hnum HVal
    go_enter Tryz.func110, Tryz.ntmps110
    go_wp2_with fail
    refine (numbered_any _ _ _).mono ?_
    rw [HN.out]
    rintro e w1 ⟨rfl, rfl⟩
    go_wp2_with fail
    go_ret
    exact ⟨rfl, ((Below.refl w.heap.size w).alloc (Nat.le_refl _) _).alloc (by simp) _⟩
  · have HN := Lib.hid hnum
    by_cases hlen : vals.length = s.fields.length
    · have HVal2 := Lib.hid (show c = if normA s 0 vals = true then 0 else 7 by rw [HVal.out, hnum, hlen]; simp)
      have hne : ((vals.length : Int) != (s.fields.length : Int)) = false := by rw [hlen]; simp
      have HL := Lib.hid hlen
      clear hnum HVal hlen
      go_enter Tryz.func110, Tryz.ntmps110
      go_wp2_with fail
      refine (numbered_any _ _ _).mono ?_
      rw [HN.out]
      rintro e w1 ⟨rfl, rfl⟩
      go_wp2_with fail
      refine wp_world (fun W hW => ?_)
      have hb0 : Below w.heap.size w W := by rw [hW]; exact ((Below.refl w.heap.size w).alloc (Nat.le_refl _) _).alloc (by simp) _
      have hs0 : W.heap[w.heap.size]? = some (.cells #[.slice af s.fields.length cf, vt, vn, vs] 43 (0, 0)) := by rw [hW]; exact blk_old (blk_new rfl)
      clear hW
      have HB0 := Lib.hid hb0; have HS0 := Lib.hid hs0; clear hb0 hs0
      go_loopw [5, 6, 25] (fun _ _ i wr => ∃ j : Nat, i = .int .i64 j ∧ j ≤ vals.length ∧ Hid (normA s j (vals.drop j) = normA s 0 vals) ∧ Below W.heap.size W wr) (fun _ _ i _ => vals.length - (intOf i).toNat)
      case atStart => exact ⟨0, rfl, by omega, Lib.hid rfl, Below.refl _ _⟩
      case round =>
        obtain ⟨j, rfl, hj, HT, hb⟩ := hrel
        have HBr := Lib.hid hb; clear hb
        by_cases hlt : j < vals.length
        · have hq : decide ((j : Int) < vals.length) = true := by simp; omega
          obtain ⟨x, hx⟩ : ∃ x, vals[j] = x := ⟨_, rfl⟩
          have hxl : x.length ≤ 1000000 := HSh.out x (by rw [← hx]; exact List.getElem_mem _)
          have hT := HT.out
          rw [List.drop_eq_getElem_cons hlt, hx, normA] at hT
          obtain ⟨b, off, rfl, hb, hc⟩ := (HV.out.below (HB0.out.trans (HBr.out.mono HB0.out.size))).get j hlt
          have c0 := hc 0 _ rfl
          rw [Nat.mul_one, Nat.add_zero, hx] at c0
          have hsr := blk_below HBr.out (lt_of_blk HS0.out) HS0.out
          obtain ⟨s0, s1, s2, s3⟩ := cellsS hsr
          have HT2 := Lib.hid hT
          clear hc hT hx hsr HT
          go_wp2_with fail
          refine (normal_s Any1 _ vt vn vs s j ⟨x.toArray⟩ _ (HS.out.below (HB0.out.trans (HBr.out.mono HB0.out.size))) (by rw [mk_size]; omega)).mono ?_
          rw [show (⟨x.toArray⟩ : ByteArray).data.toList = x by simp]
          obtain ⟨nb, hnb⟩ : ∃ nb, normalB s j x = nb := ⟨_, rfl⟩
          rw [hnb] at HT2 ⊢
          rintro e w2 ⟨rfl, hb2⟩
          have HB2 := Lib.hid (HBr.out.trans (hb2.mono HBr.out.size))
          clear hb2 hnb s0 s1 s2 s3 c0
          cases nb
          · have h7 : c = 7 := by rw [HVal2.out, ← HT2.out]; rfl
            subst h7
            go_wp2_with fail
            go_ret
            exact ⟨rfl, HB0.out.trans (HB2.out.mono HB0.out.size)⟩
          · go_wp2_with fail
            go_roundw
            case rel => exact ⟨j + 1, by go_num, by omega, Lib.hid (by rw [← HT2.out, Bool.true_and]), HB2.out⟩
            case measure => simp [intOf]; omega
        · have hq : decide ((j : Int) < vals.length) = false := by simp; omega
          obtain rfl : j = vals.length := by omega
          have h0 : c = 0 := by rw [HVal2.out, ← HT.out, List.drop_length]; rfl
          subst h0
          go_wp2_with fail
          go_ret
          exact ⟨rfl, HB0.out.trans (HBr.out.mono HB0.out.size)⟩
    · have h7 : c = 7 := by rw [HVal.out, hnum]; simp [hlen]
      have hne : ((vals.length : Int) != (s.fields.length : Int)) = true := by simp; omega
      subst h7
      clear hnum HVal hlen
      go_enter Tryz.func110, Tryz.ntmps110
      go_wp2_with fail
      refine (numbered_any _ _ _).mono ?_
      rw [HN.out]
      rintro e w1 ⟨rfl, rfl⟩
      go_wp2_with fail
      go_ret
      exact ⟨rfl, ((Below.refl w.heap.size w).alloc (Nat.le_refl _) _).alloc (by simp) _⟩
set_option maxHeartbeats 4000000 in
theorem rcheck_all (S : Nat → Prop) (vf vt vn vs : Value) (s : SchemaL) (r : RecL) (sv : Value) (w : World) (h : SchemaAt w S vf vt vn vs s) (hv : Vec w Any1 1 encS sv r.vals) (hs : ∀ x ∈ r.vals, x.length ≤ 1000000) (hn : r.vals.length ≤ 1000000) :
    Calls Tryz.prog 63 #[.agg #[vf, vt, vn, vs], .agg #[.int .i64 r.id, .int .i64 r.ver, sv]] w fun e w' => e = .returned (.int .i64 (checkN s r)) ∧ Below w.heap.size w w' := by
  have hval : checkN s r = if checkS s = 0 then checkI s r else checkS s := rfl
  obtain ⟨c, hc⟩ : ∃ c, checkN s r = c := ⟨_, rfl⟩
  obtain ⟨d, hd⟩ : ∃ d, checkS s = d := ⟨_, rfl⟩
  rw [hc, hd] at hval
  rw [hc]
  have HV := Lib.hid hv; have HS := Lib.hid h.any; have HVal := Lib.hid hval; have HD := Lib.hid hd; have HSh := Lib.hid hs
  clear hv h hval hc hd hs
  have LV : Vec w Any1 1 encS sv r.vals := HV.out
  obtain ⟨a, cap, rfl⟩ := LV.slice
  clear LV
  by_cases h0 : d = 0
  · subst h0
    have HV2 := Lib.hid (show checkI s r = c by rw [HVal.out, if_pos rfl])
    go_enter Tryz.func63, Tryz.ntmps63
    go_wp2_with fail
    refine wp_calls_world (fun W hW => ?_)
    have hb0 : Below w.heap.size w W := by rw [hW]; exact ((Below.refl w.heap.size w).alloc (Nat.le_refl _) _).alloc (by simp) _
    have hs0 : W.heap[w.heap.size]? = some (.cells #[vf, vt, vn, vs] 43 (0, 0)) := by rw [hW]; exact blk_old (blk_new rfl)
    have hr0 : W.heap[w.heap.size + 1]? = some (.cells #[.int .i64 r.id, .int .i64 r.ver, .slice a r.vals.length cap] 29 (0, 0)) := by rw [hW]; exact blk_new (by simp)
    clear hW
    refine (scheck_any Any1 _ _ _ _ s _ (HS.out.below hb0)).mono ?_
    rw [HD.out]
    rintro e w1 ⟨rfl, hb⟩
    have hs1 := blk_below hb (lt_of_blk hs0) hs0; have hr1 := blk_below hb (lt_of_blk hr0) hr0
    have HB1 := Lib.hid (hb0.trans (hb.mono hb0.size))
    obtain ⟨s0, s1, s2, s3⟩ := cellsS hs1; obtain ⟨r0, r1, r2⟩ := cells3 hr1
    clear hb hb0 hs0 hr0 hs1 hr1
    go_wp2_with fail
    refine (rchk_any Any1 _ _ _ _ s r _ _ (HS.out.below HB1.out) (HV.out.below HB1.out) HSh.out hn).mono ?_
    rw [HV2.out]
    rintro e w2 ⟨rfl, hb⟩
    have HB2 := Lib.hid (HB1.out.trans (hb.mono HB1.out.size))
    clear hb s0 s1 s2 s3 r0 r1 r2
    go_wp2_with fail
    go_ret
    exact ⟨rfl, HB2.out⟩
  · have h1 : c = d := by rw [HVal.out, if_neg h0]
    subst h1
    have hne : (c != 0) = true := by simpa using h0
    clear h0
    go_enter Tryz.func63, Tryz.ntmps63
    go_wp2_with fail
    refine (scheck_any Any1 _ _ _ _ s _ (HS.out.below (((Below.refl w.heap.size w).alloc (Nat.le_refl _) _).alloc (by simp) _))).mono ?_
    rw [HD.out]
    rintro e w1 ⟨rfl, hb⟩
    have HB1 := Lib.hid ((((Below.refl w.heap.size w).alloc (Nat.le_refl _) (.cells #[vf, vt, vn, vs] 43)).alloc (by simp) (.cells #[.int .i64 r.id, .int .i64 r.ver, .slice a r.vals.length cap] 29)).trans (hb.mono (by simp; omega)))
    clear hb
    go_wp2_with fail
    go_ret
    exact ⟨rfl, HB1.out⟩
end
section
set_option maxRecDepth 100000
open Go.RowKit
theorem sndGo_len (l : List UInt8) : ∀ (la : UInt8) (out : List UInt8), out.length ≤ 4 → (sndGo la out l).length ≤ 4 := by
  induction l with
  | nil => intro la out h; exact h
  | cons c l ih =>
    intro la out h
    unfold sndGo
    split
    next h4 =>
      refine ih _ _ ?_
      unfold sndStep
      split
      · exact h
      · split
        · simp; omega
        · exact h
    next h4 => exact h
theorem soundL_len (l : List UInt8) : (soundL l).length ≤ 4 := by
  unfold soundL
  cases toks l with
  | nil => simp [sndFirst]
  | cons t T =>
    show (soundT t).length ≤ 4
    unfold soundT
    split
    · cases t with
      | nil => simp
      | cons c t =>
        show (padL (sndGo (codeB c) [c] t)).length ≤ 4
        have := sndGo_len t (codeB c) [c] (by simp)
        unfold padL
        simp only [List.length_append, List.length_replicate]; omega
    · simp
theorem numL_len (l : List UInt8) : (numL l).length ≤ l.length := by
  unfold numL
  cases h : (toks l).filter numB with
  | nil => simp
  | cons x L =>
    have hx : x ∈ toks l := (List.mem_filter.1 (by rw [h]; exact List.mem_cons_self)).1
    have := toks_le l [] x hx
    simpa using this
theorem partN_len (t : Int) (v : List UInt8) : (partN t v).length ≤ v.length + 4 := by
  unfold partN
  split
  · simp
  · unfold transN
    split
    · omega
    · split
      · have := soundL_len v; omega
      · split
        · rw [List.length_take]; omega
        · split
          · rw [List.length_take]; omega
          · have := numL_len v; omega
/-- the components of a valid key fit the values of a valid record -/
theorem comps_ok {s : SchemaL} {K : List (Int × Int)} {r : RecL} (h : KeyOk s.fields K) (hr : checkN s r = 0) (hs : ∀ x ∈ r.vals, x.length ≤ 64) : CompsOk K r.vals := by
  obtain ⟨hc, _, hl, hno⟩ := checkN_ok hr
  refine ⟨h.len2, fun c hcK => ?_, fun c hcK => ?_⟩
  · obtain ⟨f0, f1, f2⟩ := h.fit c hcK
    have hfn : c.1.toNat < r.vals.length := by omega
    have h64 : (r.vals.getD c.1.toNat []).length ≤ 64 := by rw [getD_at _ _ hfn]; exact hs _ (List.getElem_mem hfn)
    have ht : 1 ≤ c.2 ∧ c.2 ≤ 5 := by
      unfold fitsB at f2
      split at f2
      · omega
      · split at f2
        · omega
        · split at f2
          · omega
          · split at f2
            · omega
            · simp at f2
    refine ⟨f0, by omega, ht, by omega, fun h25 => ?_⟩
    by_cases h0 : r.vals.getD c.1.toNat [] = []
    · rw [h0]; intro b hb; simp at hb
    · have hnj := normA_get s r.vals 0 hno c.1.toNat hfn
      rw [Nat.zero_add] at hnj
      have hfi : findN s (c.1.toNat : Int) = ((s.fields.getD c.1.toNat default).2, 0) := findN_in hc (by omega)
      have hown : ownK (s.fields.getD c.1.toNat default).2 s.rules (r.vals.getD c.1.toNat []) = true := by
        unfold normalB at hnj
        rw [hfi, if_pos rfl, if_neg h0] at hnj
        exact hnj
      have hkk := findN_kind (s := s) (f := (c.1.toNat : Int)) (by rw [hfi])
      rw [hfi] at hkk
      refine (own_facts hown hkk).2.1 ?_
      rcases h25 with h2 | h5
      · unfold fitsB at f2; rw [h2] at f2; left; simpa using f2
      · unfold fitsB at f2; rw [h5] at f2; right; simpa using f2
  · obtain ⟨f0, f1, f2⟩ := h.fit c hcK
    have hfn : c.1.toNat < r.vals.length := by omega
    have h64 : (r.vals.getD c.1.toNat []).length ≤ 64 := by rw [getD_at _ _ hfn]; exact hs _ (List.getElem_mem hfn)
    have := partN_len c.2 (r.vals.getD c.1.toNat [])
    unfold compN
    omega
end
section
set_option maxRecDepth 100000
open Go.RowKit
set_option maxHeartbeats 4000000 in
theorem bcheck2_any (S T : Nat → Prop) (vf vt vn vs kv : Value) (s : SchemaL) (Ks : List (List (Int × Int))) (i : Nat) (w : World) (h : SchemaAt w S vf vt vn vs s) (hk : KeysVec w T kv Ks) (hc : checkS s = 0) (hn : s.fields.length ≤ 1000000) (ok : KeysOk s.fields Ks) (hi : i ≤ 1000000) :
    Calls Tryz.prog 58 #[.agg #[vf, vt, vn, vs], kv, .int .i64 i] w fun e w' => e = .returned (.int .i64 (if i < Ks.length then 0 else 2)) ∧ Below w.heap.size w w' := by
  obtain ⟨ak, ck, rfl⟩ := hk.slice
  have HS := Lib.hid h; have HK := Lib.hid hk; have HOk := Lib.hid ok; have HC := Lib.hid hc
  have dz : ((0 : Int) != 0) = false := rfl
  have d0 : decide ((i : Int) < 0) = false := by simp
  obtain ⟨r, hr⟩ : ∃ r : Int, (if i < Ks.length then 0 else 2) = r := ⟨_, rfl⟩
  rw [hr]
  have HR := Lib.hid hr
  clear h hk ok hc hr
  go_enter Tryz.func58, Tryz.ntmps58
  go_wp2_with fail
  refine wp_calls_world (fun W hW => ?_)
  have hb0 : Below w.heap.size w W := by rw [hW]; exact (Below.refl w.heap.size w).alloc (Nat.le_refl _) _
  clear hW
  refine (bchk_yes S T _ _ _ _ _ s Ks W (HS.out.below hb0) (HK.out.below hb0) HC.out hn HOk.out).mono ?_
  rintro e w1 ⟨rfl, hb⟩
  have HB := Lib.hid (hb0.trans (hb.mono hb0.size))
  clear hb hb0
  by_cases hlt : i < Ks.length
  · have d1 : decide ((Ks.length : Int) ≤ (i : Int)) = false := by simp; omega
    have hr := HR.out
    rw [if_pos hlt] at hr
    subst hr
    go_wp2_with fail
    go_ret
    exact ⟨rfl, HB.out⟩
  · have d1 : decide ((Ks.length : Int) ≤ (i : Int)) = true := by simp; omega
    have hr := HR.out
    rw [if_neg hlt] at hr
    subst hr
    go_wp2_with fail
    go_ret
    exact ⟨rfl, HB.out⟩
set_option maxHeartbeats 4000000 in
theorem bpart_yes (S : Nat → Prop) (vf vt vn vs : Value) (s : SchemaL) (c : Int × Int) (r : RecL) (sv : Value) (w : World) (h : SchemaAt w S vf vt vn vs s) (hv : Vec w Any1 1 encS sv r.vals) (hr : checkN s r = 0) (hs : ∀ x ∈ r.vals, x.length ≤ 64) (hn : s.fields.length ≤ 1000) (hc0 : 0 ≤ c.1) (hc1 : c.1 < s.fields.length) (hft : fitsB c.2 (s.fields.getD c.1.toNat default).2 = true)
    (hf : 1 ≤ c.2 ∧ c.2 ≤ 5) (hl : (r.vals.getD c.1.toNat []).length ≤ 1000) (has : c.2 = 2 ∨ c.2 = 5 → ascii (r.vals.getD c.1.toNat [])) :
    Calls Tryz.prog 25 #[.agg #[vf, vt, vn, vs], .agg #[.int .i64 c.1, .int .i64 c.2], .agg #[.int .i64 r.id, .int .i64 r.ver, sv]] w fun e w' => e = .returned (strV (compN r.vals c)) ∧ Below w.heap.size w w' := by
  obtain ⟨av, cv, rfl⟩ := hv.slice
  have hvl := (checkN_ok hr).2.2.1
  obtain ⟨f, t⟩ := c
  dsimp only at hc0 hc1 hft hf hl has ⊢
  obtain ⟨fn, rfl⟩ : ∃ fn : Nat, f = fn := ⟨f.toNat, by omega⟩
  have hfn : fn < s.fields.length := by omega
  have hfv : fn < r.vals.length := by omega
  have hvn : r.vals.length ≤ 1000 := by omega
  have hft2 : fitsB t (s.fields.getD fn default).2 = true := hft
  have hl2 : (r.vals.getD fn []).length ≤ 1000 := hl
  obtain ⟨y, hy⟩ : ∃ y, partN t (r.vals.getD fn []) = y := ⟨_, rfl⟩
  have hy2 : compN r.vals ((fn : Int), t) = y := hy
  rw [hy2]
  have HS := Lib.hid h; have HV := Lib.hid hv; have HR := Lib.hid hr; have HSh := Lib.hid hs; have HFT := Lib.hid hft2; have HAs := Lib.hid (show t = 2 ∨ t = 5 → ascii (r.vals.getD fn []) from has); have HY := Lib.hid hy
  have dz : ((0 : Int) != 0) = false := rfl
  clear h hv hr hs hft hft2 has hl hvl hy hy2 hc0 hc1
  obtain ⟨rid, rver, vals⟩ := r
  dsimp only at HV hfv hvn hl2 HY HAs HSh ⊢
  go_enter Tryz.func25, Tryz.ntmps25
  go_wp2_with fail
  refine wp_calls_world (fun W hW => ?_)
  have hb0 : Below w.heap.size w W := by rw [hW]; exact (((Below.refl w.heap.size w).alloc (Nat.le_refl _) _).alloc (by simp) _).alloc (by simp; omega) _
  have hs0 : W.heap[w.heap.size]? = some (.cells #[vf, vt, vn, vs] 43 (0, 0)) := by rw [hW]; exact blk_old (blk_old (blk_new rfl))
  have hc0 : W.heap[w.heap.size + 1]? = some (.cells #[.int .i64 fn, .int .i64 t] 31 (0, 0)) := by rw [hW]; exact blk_old (blk_new (by simp))
  have hr0 : W.heap[w.heap.size + 2]? = some (.cells #[.int .i64 rid, .int .i64 rver, .slice av vals.length cv] 29 (0, 0)) := by rw [hW]; exact blk_new (by simp)
  clear hW
  refine (rcheck_all S _ _ _ _ s ⟨rid, rver, vals⟩ _ W (HS.out.below hb0) (HV.out.below hb0) (fun x hx => by have := HSh.out x hx; omega) (by show vals.length ≤ _; omega)).mono ?_
  rw [HR.out]
  rintro e w1 ⟨rfl, hb⟩
  have hs1 := blk_below hb (lt_of_blk hs0) hs0; have hc1 := blk_below hb (lt_of_blk hc0) hc0; have hr1 := blk_below hb (lt_of_blk hr0) hr0
  have HB1 := Lib.hid (hb0.trans (hb.mono hb0.size)); have HC1 := Lib.hid hc1; have HR1 := Lib.hid hr1
  obtain ⟨s0, s1, s2, s3⟩ := cellsS hs1; obtain ⟨c0, c1⟩ := cells2K hc1
  clear hb hb0 hs0 hc0 hr0 hs1 hc1 hr1
  go_wp2_with fail
  refine (right_in S _ _ _ _ s.fields fn t _ ((HS.out.below HB1.out).1) hfn (by omega)).mono ?_
  rw [HFT.out]
  rintro e w2 ⟨rfl, hb⟩
  have hc2 := blk_below hb (lt_of_blk HC1.out) HC1.out; have hr2 := blk_below hb (lt_of_blk HR1.out) HR1.out
  have HB2 := Lib.hid (HB1.out.trans (hb.mono HB1.out.size))
  clear hb s0 s1 s2 s3 c0 c1
  obtain ⟨c0, c1⟩ := cells2K hc2; obtain ⟨r0, r1, r2⟩ := cells3 hr2
  clear hc2 hr2
  go_wp2_with fail
  refine (part_yes fn t rid rver _ vals w2 (HV.out.below HB2.out) hfv (by omega) hf hl2 HAs.out).mono ?_
  rw [HY.out]
  rintro e w3 ⟨rfl, hb⟩
  go_wp2_with fail
  go_ret
  exact ⟨rfl, HB2.out.trans (hb.mono HB2.out.size)⟩
end
section
set_option maxRecDepth 100000
open Go.RowKit
set_option maxHeartbeats 4000000 in
theorem bHash_yes (S T : Nat → Prop) (vf vt vn vs kv : Value) (s : SchemaL) (k : Int × Int) (Ks : List (List (Int × Int))) (i : Nat) (r : RecL) (sv : Value) (w : World) (h : SchemaAt w S vf vt vn vs s) (hk : KeysVec w T kv Ks) (hv : Vec w Any1 1 encS sv r.vals) (hr : checkN s r = 0) (hs : ∀ x ∈ r.vals, x.length ≤ 64) (hn : s.fields.length ≤ 1000) (ok : KeysOk s.fields Ks) (hi : i < Ks.length) :
    Calls Tryz.prog 23 #[.agg #[vf, vt, vn, vs], .agg #[.int .u64 k.1, .int .u64 k.2], kv, .int .i64 i, .agg #[.int .i64 r.id, .int .i64 r.ver, sv]] w fun e w' =>
      e = .returned (.tuple #[.int .u64 (bhashN k i ((Ks.getD i []).map (compN r.vals))).1, .bool (bhashN k i ((Ks.getD i []).map (compN r.vals))).2, .int .i64 0]) ∧ Below w.heap.size w w' := by
  obtain ⟨ak, ck, rfl⟩ := hk.slice
  obtain ⟨av, cv, rfl⟩ := hv.slice
  have hc := (checkN_ok hr).1
  have hvl := (checkN_ok hr).2.2.1
  have hvn : r.vals.length ≤ 1000 := by omega
  have hco := comps_ok (ok.key (Ks.getD i []) (by rw [getD_at _ _ hi]; exact List.getElem_mem hi)) hr hs
  have h8 := ok.len
  obtain ⟨⟨h0, b0⟩, hR⟩ : ∃ R, bhashN k i ((Ks.getD i []).map (compN r.vals)) = R := ⟨_, rfl⟩
  rw [hR]
  have HS := Lib.hid h; have HK := Lib.hid hk; have HV := Lib.hid hv; have HRc := Lib.hid hr; have HSh := Lib.hid hs; have HOk := Lib.hid ok; have HC := Lib.hid hc; have HCo := Lib.hid hco; have HR := Lib.hid hR
  have hck := Lib.hid (show (if i < Ks.length then (0 : Int) else 2) = 0 from if_pos hi)
  have dz : ((0 : Int) != 0) = false := rfl
  have hii : (i : Int) < (Ks.length : Int) := by omega
  clear h hk hv hr hs ok hc hco hR hvl
  obtain ⟨rid, rver, vals⟩ := r
  dsimp only at HV HSh hvn HCo HR ⊢
  go_enter Tryz.func23, Tryz.ntmps23
  go_wp2_with fail
  refine wp_calls_world (fun W hW => ?_)
  have hb0 : Below w.heap.size w W := by rw [hW]; exact (((Below.refl w.heap.size w).alloc (Nat.le_refl _) _).alloc (by simp) _).alloc (by simp; omega) _
  have hs0 : W.heap[w.heap.size]? = some (.cells #[vf, vt, vn, vs] 43 (0, 0)) := by rw [hW]; exact blk_old (blk_old (blk_new rfl))
  have hk0 : W.heap[w.heap.size + 1]? = some (.cells #[.int .u64 k.1, .int .u64 k.2] 26 (0, 0)) := by rw [hW]; exact blk_old (blk_new (by simp))
  have hr0 : W.heap[w.heap.size + 2]? = some (.cells #[.int .i64 rid, .int .i64 rver, .slice av vals.length cv] 29 (0, 0)) := by rw [hW]; exact blk_new (by simp)
  clear hW
  refine (bcheck2_any S T _ _ _ _ _ s Ks i W (HS.out.below hb0) (HK.out.below hb0) HC.out (by omega) HOk.out (by omega)).mono ?_
  rw [hck.out]
  rintro e w1 ⟨rfl, hb⟩
  have hs1 := blk_below hb (lt_of_blk hs0) hs0; have hk1 := blk_below hb (lt_of_blk hk0) hk0; have hr1 := blk_below hb (lt_of_blk hr0) hr0
  have HB1 := Lib.hid (hb0.trans (hb.mono hb0.size)); have HK1 := Lib.hid hk1; have HR1 := Lib.hid hr1
  obtain ⟨s0, s1, s2, s3⟩ := cellsS hs1; obtain ⟨r0, r1, r2⟩ := cells3 hr1
  clear hb hb0 hs0 hk0 hr0 hs1 hk1 hr1
  go_wp2_with fail
  refine (rcheck_all S _ _ _ _ s ⟨rid, rver, vals⟩ _ w1 (HS.out.below HB1.out) (HV.out.below HB1.out) (fun x hx => by have := HSh.out x hx; omega) (by show vals.length ≤ _; omega)).mono ?_
  rw [HRc.out]
  rintro e w2 ⟨rfl, hb⟩
  have hk2 := blk_below hb (lt_of_blk HK1.out) HK1.out; have hr2 := blk_below hb (lt_of_blk HR1.out) HR1.out
  have HB2 := Lib.hid (HB1.out.trans (hb.mono HB1.out.size))
  clear hb s0 s1 s2 s3 r0 r1 r2
  obtain ⟨k0, k1⟩ := cells2K hk2; obtain ⟨r0, r1, r2⟩ := cells3 hr2
  have lk := lt_of_blk hk2; have lr := lt_of_blk hr2
  obtain ⟨b, off, c, rfl, lb, c0, hvc⟩ := (HK.out.below HB2.out).at i hi
  obtain ⟨ca, cn, cc⟩ := c
  dsimp only at c0 hvc
  have HVC := Lib.hid hvc
  clear hk2 hr2 hvc
  go_wp2_with fail
  have bD : Below w2.heap.size w2 w2.drew := (Below.refl _ _).drew
  refine wp_region_noPanic ?_
  refine wp_region_held_drew (S := (fun w' => w'.cell? ⟨w.heap.size + 1, 0, none⟩ = some (.int .u64 k.1) ∧ w'.cell? ⟨w.heap.size + 1, 1, none⟩ = some (.int .u64 k.2) ∧ w'.cell? ⟨b, off + i, none⟩ = some (.slice ca cn cc) ∧ w'.cell? ⟨w.heap.size + 2, 0, none⟩ = some (.int .i64 rid) ∧ w'.cell? ⟨w.heap.size + 2, 1, none⟩ = some (.int .i64 rver) ∧ w'.cell? ⟨w.heap.size + 2, 2, none⟩ = some (.slice av vals.length cv))) (by kernel_rfl) (⟨k0, k1, c0, r0, r1, r2⟩) (fun hHeld => ?_)
  refine tH 0 (h := ?_)
  refine tH 1 (h := ?_)
  refine tH 2 (h := ?_)
  refine tH 3 (h := ?_)
  refine tH 4 (h := ?_)
  refine tH 5 (h := ?_)
  refine tH 6 (h := ?_)
  refine wpAnyH_ready (rs := [7]) (by kernel_rfl) (by simp) ?_
  refine AllReadyH.cons rfl (fun K hK => ?_) AllReadyH.nil
  go_simp
  refine (bhash_yes T k _ (Ks.getD i []) i rid rver _ vals _ (HVC.out.below bD) ((HV.out.below HB2.out).below bD) (by omega) HCo.out (by omega)).mono ?_; rw [HR.out]; rintro e w3 ⟨rfl, hb⟩; have b3 := bD.trans hb; clear hb
  refine hK.out _ _ (⟨(b3.cell (p := ⟨w.heap.size + 1, 0, none⟩) lk).trans k0, (b3.cell (p := ⟨w.heap.size + 1, 1, none⟩) lk).trans k1, (b3.cell (p := ⟨b, off + i, none⟩) lb).trans c0, (b3.cell (p := ⟨w.heap.size + 2, 0, none⟩) lr).trans r0, (b3.cell (p := ⟨w.heap.size + 2, 1, none⟩) lr).trans r1, (b3.cell (p := ⟨w.heap.size + 2, 2, none⟩) lr).trans r2⟩) (fun hHeld => ?_)
  clear hK K
  try simp only [List.getElem_toArray, List.getElem_cons_zero, List.getElem_cons_succ, Act.put, List.setIfInBounds_toArray, List.set_cons_zero, List.set_cons_succ]
  refine tH 8 (h := ?_)
  refine tH 9 (h := ?_)
  refine tH 10 (h := ?_)
  refine tH 11 (h := ?_)
  refine tH 12 (h := ?_)
  refine wpAnyH_done (by kernel_rfl) ?_ _
  refine NoPanic.normal ?_
  go_wp2_with fail
  go_ret3
  exact ⟨rfl, HB2.out.trans (b3.mono HB2.out.size)⟩
end
section
set_option maxRecDepth 100000
open Go.RowKit
/-- the cells of one of some arrays -/
theorem BitsVec.at {w : World} {S : Nat → Prop} {a : Option Addr} {n cap : Nat} {L : List BitsL} (h : BitsVec w S (.slice a n cap) L) (j : Nat) (hj : j < L.length) :
    ∃ (b off : Nat) (c : BV), a = some ⟨b, off, none⟩ ∧ b < w.heap.size ∧ w.cell? ⟨b, off + j * 2, none⟩ = some (.int .i64 c.len) ∧ w.cell? ⟨b, off + j * 2 + 1, none⟩ = some (.slice c.a c.n c.c) ∧ BitsAt w S (.agg (encBV c).toArray) (L.getD j noBits) := by
  obtain ⟨C, hC, hA⟩ := h
  have hj2 : j < C.length := by rw [hA.1]; exact hj
  obtain ⟨b, off, e, hb, hc⟩ := hC.get j hj2
  refine ⟨b, off, C[j], e, hb, by have := hc 0 _ rfl; simpa using this, by have := hc 1 _ rfl; simpa using this, ?_⟩
  rw [getD_at _ _ hj]
  exact hA.2 j hj2 hj
theorem BitsVec.len {w : World} {S : Nat → Prop} {a : Option Addr} {n cap : Nat} {L : List BitsL} (h : BitsVec w S (.slice a n cap) L) : n = L.length ∧ n ≤ cap := by
  obtain ⟨C, hC, hA⟩ := h
  have := hC.len; have := hA.1; omega
end
section
set_option maxRecDepth 100000
open Go.RowKit Cal
attribute [local go_sem] toList_mk mk_size str_append
/-- parameters that are valid for a number of fields -/
structure ParsOk (P : List ParL) : Prop where
  par : ∀ i, i < P.length → ParOk (P.getD i default)
  salt : ∀ i, i < P.length → (P.getD i default).salt < P.length ∧ (P.getD i default).salt ≠ i
/-- what a record and parameters must be for encode.Record to succeed -/
structure RecIn (s : SchemaL) (P : List ParL) (r : RecL) : Prop where
  chk : checkS s = 0
  rec_ : checkN s r = 0
  len : P.length = s.fields.length
  pars : ParsOk P
  short : ∀ v ∈ r.vals, v.length ≤ 64
theorem RecIn.enc {s : SchemaL} {P : List ParL} {r : RecL} (h : RecIn s P r) : EncIn s P r.vals := by
  obtain ⟨_, hnum, hl, hno⟩ := checkN_ok h.rec_
  have h5 := (check_fields h.chk).1.2
  have hl2 := h.len
  refine ⟨by omega, by omega, fun i hi => ⟨h.pars.par i hi, by have := (h.pars.salt i hi).1; omega, by omega, by omega, ?_, ?_, h.short⟩⟩
  · rw [findN_in h.chk (by omega)]
  · have := normA_get s r.vals 0 hno i (by omega)
    rwa [Nat.zero_add] at this
end
section
set_option maxRecDepth 100000
open Go.RowKit
attribute [local go_sem] toList_mk mk_size str_append
theorem EncVal.below {w w' : World} {S : Nat → Prop} {v : Value} {e : EncL} (h : EncVal w S v e) (hb : Below w.heap.size w w') : EncVal w' S v e := by
  obtain ⟨s, rfl, h⟩ := h; exact ⟨s, rfl, h.below hb⟩
/-- a row that lies in a block of its own -/
theorem own_new {α : Type} {w0 w : World} {e : TypeId} {enc : α → List Value} {L : List α} {g size n : Nat} (hb : Below w0.heap.size w0 w) (hg : w0.heap.size ≤ g) (h : w.heap[g]? = some (.cells (L.flatMap enc).toArray e (0, 0))) (hl : (L.flatMap enc).length = L.length * size) (hm : L.length ≤ 1000000) (hn : n = L.length) :
    OwnV e size enc w0 (.slice (some ⟨g, 0, none⟩) n n) L w := by
  subst hn
  exact ⟨⟨hl, .inr ⟨g, L.length, _, rfl, hg, h, Nat.le_refl _, by unfold maxLen; omega, by simpa using hl, by rw [← hl]; show List.take _ (L.flatMap enc) = _; exact List.take_length⟩⟩, hb⟩
end
section
open Go.RowKit
theorem digs_one (i : Nat) (h : i < 10) : Lib.decDigits i = [UInt8.ofNat (48 + i)] := by
  have : ∀ j : Fin 10, Lib.decDigits j = [UInt8.ofNat (48 + j.val)] := by decide +kernel
  exact this ⟨i, h⟩
end
section
set_option maxRecDepth 100000
open Go.RowKit
attribute [local go_sem] toList_mk mk_size
set_option maxHeartbeats 1000000 in
theorem rnumber_one (n : Nat) (w : World) (hn : n < 10) : Calls Tryz.prog 87 #[.int .i64 n] w fun e w' => e = .returned (strV (Lib.decDigits n)) ∧ Below w.heap.size w w' := by
  obtain ⟨c, hc⟩ : ∃ c : UInt8, UInt8.ofNat (48 + n) = c := ⟨_, rfl⟩
  have hcv : 48 + (n : Int) = (c.toNat : Int) := by rw [← hc, UInt8.toNat_ofNat']; omega
  rw [digs_one n hn, hc]
  have d1 : decide ((n : Int) < 10) = true := by simp; omega
  have hm : max (n : Int) 0 = (n : Int) := by omega
  have hown := (own_new (w0 := w) (w := w.alloc (.cells #[.int .u8 (48 + (n : Int))] 5)) (enc := encB) (L := [c]) (size := 1) (n := 1) (e := 5) (g := w.heap.size) ((Below.refl _ _).alloc (Nat.le_refl _) _) (Nat.le_refl _) (by rw [hcv]; exact blk_new rfl) rfl (by simp) rfl).1
  have hconv := run_convert_owned (P := Tryz.prog) [c] hown Tryz.underlying183 Tryz.underlying5 Tryz.underlying9
  clear hown hc hcv
  go_enter Tryz.func87, Tryz.ntmps87
  go_wp2_with fail
  go_ret
  exact ⟨rfl, (Below.refl _ _).alloc (Nat.le_refl _) _⟩
end
section
set_option maxRecDepth 100000
open Go.RowKit
set_option maxHeartbeats 1000000 in
theorem blkcmp_any (h k : Int) (v : Value) (a : Option Addr) (n c : Nat) (w : World) : Calls Tryz.prog 112 #[.agg #[.int .u64 h, .slice a n c], .int .u64 k] w fun e w' => e = .returned (.int .i64 (cmp3 h k)) ∧ Below w.heap.size w w' := by
  obtain ⟨r, hr⟩ : ∃ r, cmp3 h k = r := ⟨_, rfl⟩
  rw [hr]
  have HR := Lib.hid hr; clear hr
  go_enter Tryz.func112, Tryz.ntmps112
  go_wp2_with fail
  refine (cmpU_any h k _).mono ?_
  rw [HR.out]
  rintro e w1 ⟨rfl, rfl⟩
  go_wp2_with fail
  go_ret
  exact ⟨rfl, (Below.refl _ _).alloc (Nat.le_refl _) _⟩
end
section
set_option maxRecDepth 100000
open Go.RowKit
def BsPost (C : List BkV) (k : Int) (w : World) (e : Ending) (w' : World) : Prop := ∃ at_ : Nat, at_ ≤ C.length ∧ (∀ t, t < at_ → (C.getD t default).h < k) ∧ (∀ t, at_ ≤ t → t < C.length → k ≤ (C.getD t default).h) ∧
  e = .returned (.tuple #[.int .i64 at_, .bool (decide (at_ < C.length ∧ (C.getD at_ default).h = k))]) ∧ Below w.heap.size w w'
set_option maxHeartbeats 4000000 in
theorem bs_any (S : Nat → Prop) (v : Value) (C : List BkV) (k : Int) (w : World) (h : Vec w S 2 encBk v C) (hs : ∀ a b, a ≤ b → b < C.length → (C.getD a default).h ≤ (C.getD b default).h) (hn : C.length ≤ 1000000) :
    Calls Tryz.prog 111 #[v, .int .u64 k, .func (.func 112) #[] #[]] w (BsPost C k w) := by
  obtain ⟨a, cap, rfl⟩ := h.slice
  have HV := Lib.hid h; have HS := Lib.hid hs
  clear h hs
  go_enter Tryz.func111, Tryz.ntmps111
  go_wp2_with fail
  go_loopw [9, 10] (fun i j wr => ∃ x y : Nat, i = .int .i64 x ∧ j = .int .i64 y ∧ x ≤ y ∧ y ≤ C.length ∧ Hid (∀ t, t < x → (C.getD t default).h < k) ∧ Hid (∀ t, y ≤ t → t < C.length → k ≤ (C.getD t default).h) ∧ Below w.heap.size w wr) (fun i j _ => (intOf j).toNat - (intOf i).toNat)
  case atStart => exact ⟨0, C.length, rfl, rfl, by omega, by omega, Lib.hid (fun t ht => by omega), Lib.hid (fun t h1 h2 => by omega), Below.refl _ _⟩
  case round =>
    obtain ⟨x, y, rfl, rfl, hxy, hy, HL, HG, hbw⟩ := hrel
    have HB := Lib.hid hbw
    by_cases hlt : x < y
    · have hq : decide ((x : Int) < (y : Int)) = true := by simp; omega
      obtain ⟨m, hm⟩ : ∃ m, (x + y) / 2 = m := ⟨_, rfl⟩
      have hm1 : x ≤ m ∧ m < y := by omega
      have hdiv : ((x : Int) + (y : Int)) / 2 = (m : Int) := by omega
      have hmi : (m : Int) < (C.length : Int) := by omega
      obtain ⟨b, off, rfl, lb, hc⟩ := (HV.out.below hbw).get m (by omega)
      have c0 := hc 0 _ rfl; have c1 := hc 1 _ rfl
      rw [Nat.add_zero] at c0
      have hmC : m < C.length := by omega
      obtain ⟨cm, hcm⟩ : ∃ z, C[m] = z := ⟨_, rfl⟩
      have hcd : C.getD m default = cm := by rw [getD_at _ _ hmC]; exact hcm
      rw [hcm] at c0 c1
      have HCD := Lib.hid hcd
      obtain ⟨ch, cA, cn, cc, cids⟩ := cm
      dsimp only at c0 c1
      obtain ⟨r, hr⟩ : ∃ r, cmp3 ch k = r := ⟨_, rfl⟩
      have HR := Lib.hid hr
      clear hm hc hcm hcd hr
      go_wp2_with fail
      refine (blkcmp_any ch k (.int .u64 0) cA cn cc _).mono ?_
      rw [HR.out]
      rintro e w1 ⟨rfl, hb⟩
      have HB1 := Lib.hid (HB.out.trans (hb.mono HB.out.size))
      clear hb
      by_cases hk : ch < k
      · have hrn : r = -1 := by rw [← HR.out]; unfold cmp3; rw [if_pos hk]
        have d1 : decide (r < 0) = true := by rw [hrn]; rfl
        have HL2 := Lib.hid (show ∀ t, t < m + 1 → (C.getD t default).h < k from fun t ht => by
          have h1 := HS.out t m (by omega) hmC
          rw [HCD.out] at h1
          have h2 : (C.getD t default).h ≤ ch := h1
          omega)
        clear hrn hk
        go_wp2_with fail
        go_roundw
        case rel => exact ⟨m + 1, y, by go_num, rfl, by omega, hy, HL2, HG, HB1.out⟩
        case measure => simp [intOf]; omega
      · have d1 : decide (r < 0) = false := by
          have : r = 0 ∨ r = 1 := by
            rw [← HR.out]; unfold cmp3; rw [if_neg hk]; split
            · right; rfl
            · left; rfl
          rcases this with h | h <;> rw [h] <;> rfl
        have HG2 := Lib.hid (show ∀ t, m ≤ t → t < C.length → k ≤ (C.getD t default).h from fun t h1 h2 => by
          have h3 := HS.out m t h1 h2
          rw [HCD.out] at h3
          have h4 : ch ≤ (C.getD t default).h := h3
          omega)
        clear hk
        go_wp2_with fail
        go_roundw
        case rel => exact ⟨x, m, rfl, rfl, by omega, by omega, HL, HG2, HB1.out⟩
        case measure => simp [intOf]; omega
    · have hq : decide ((x : Int) < (y : Int)) = false := by simp; omega
      have hxy2 : x = y := by omega
      subst hxy2
      by_cases hx : x < C.length
      · have d2 : decide ((x : Int) < (C.length : Int)) = true := by simp; omega
        have hxi : (x : Int) < (C.length : Int) := by omega
        obtain ⟨b, off, rfl, lb, hc⟩ := (HV.out.below hbw).get x hx
        have c0 := hc 0 _ rfl; have c1 := hc 1 _ rfl
        rw [Nat.add_zero] at c0
        obtain ⟨cm, hcm⟩ : ∃ z, C[x] = z := ⟨_, rfl⟩
        have hcd : C.getD x default = cm := by rw [getD_at _ _ hx]; exact hcm
        rw [hcm] at c0 c1
        obtain ⟨ch, cA, cn, cc, cids⟩ := cm
        dsimp only at c0 c1
        obtain ⟨r, hr⟩ : ∃ r, cmp3 ch k = r := ⟨_, rfl⟩
        have HR := Lib.hid hr
        have HFin := Lib.hid (show Ending.returned (.tuple #[.int .i64 x, .bool (r == 0)]) = .returned (.tuple #[.int .i64 x, .bool (decide (x < C.length ∧ (C.getD x default).h = k))]) by
          have e1 : (r == 0) = decide (x < C.length ∧ (C.getD x default).h = k) := by
            rw [hcd, ← hr, beq_dec]
            apply decide_eq_decide.2
            constructor
            · intro h; exact ⟨hx, cmp3_eq h⟩
            · intro h; have h2 : ch = k := h.2; rw [h2]; exact cmp3_self k
          rw [e1])
        clear hc hcm hcd hr
        go_wp2_with fail
        refine (blkcmp_any ch k (.int .u64 0) cA cn cc _).mono ?_
        rw [HR.out]
        rintro e w1 ⟨rfl, hb⟩
        have HB1 := Lib.hid (HB.out.trans (hb.mono HB.out.size))
        clear hb
        go_wp2_with fail
        go_ret2
        exact ⟨x, by omega, HL.out, HG.out, HFin.out, HB1.out⟩
      · have d2 : decide ((x : Int) < (C.length : Int)) = false := by simp; omega
        have HFin := Lib.hid (show Ending.returned (.tuple #[.int .i64 x, .bool false]) = .returned (.tuple #[.int .i64 x, .bool (decide (x < C.length ∧ (C.getD x default).h = k))]) by
          rw [decide_eq_false (fun h => hx h.1)])
        go_wp2_with fail
        go_ret2
        exact ⟨x, by omega, HL.out, HG.out, HFin.out, HB.out⟩
end
section
set_option maxRecDepth 100000
open Go.RowKit
structure RV where
  id : Int
  ver : Int
  a : Option Addr
  n : Nat
  c : Nat
  vals : List (List UInt8)
abbrev encRV (x : RV) : List Value := [.int .i64 x.id, .int .i64 x.ver, .slice x.a x.n x.c]
def pR (x : RV) : RecL := ⟨x.id, x.ver, x.vals⟩
/-- records in memory -/
def RecsVec (w : World) (S : Nat → Prop) (v : Value) (R : List RecL) : Prop := ∃ C : List RV, Vec w S 3 encRV v C ∧ C.map pR = R ∧ ∀ x ∈ C, Vec w S 1 encS (.slice x.a x.n x.c) x.vals
theorem RecsVec.move {w w' : World} {S T : Nat → Prop} {v : Value} {R : List RecL} (h : RecsVec w S v R) (hz : w.heap.size ≤ w'.heap.size) (hS : ∀ x, x < w.heap.size → S x → w'.heap[x]? = w.heap[x]? ∧ T x) : RecsVec w' T v R := by
  obtain ⟨C, h1, h2, h3⟩ := h
  exact ⟨C, h1.move hz hS, h2, fun x hx => (h3 x hx).move hz hS⟩
theorem RecsVec.below {w w' : World} {S : Nat → Prop} {v : Value} {R : List RecL} (h : RecsVec w S v R) (hb : Below w.heap.size w w') : RecsVec w' S v R := h.move hb.size fun x hx hs => ⟨hb.block x hx, hs⟩
theorem RecsVec.any {w : World} {S : Nat → Prop} {v : Value} {R : List RecL} (h : RecsVec w S v R) : RecsVec w Any1 v R := h.move (Nat.le_refl _) fun x hx hs => ⟨rfl, trivial⟩
theorem RecsVec.slice {w : World} {S : Nat → Prop} {v : Value} {R : List RecL} (h : RecsVec w S v R) : ∃ a cap, v = .slice a R.length cap := by
  obtain ⟨C, h1, h2, _⟩ := h
  obtain ⟨a, cap, rfl⟩ := h1.slice
  exact ⟨a, cap, by rw [← h2, List.length_map]⟩
theorem RecsVec.at {w : World} {S : Nat → Prop} {a : Option Addr} {n cap : Nat} {R : List RecL} (h : RecsVec w S (.slice a n cap) R) (j : Nat) (hj : j < R.length) :
    ∃ (b off : Nat) (id ver : Int) (aa : Option Addr) (nn cc : Nat) (vals : List (List UInt8)), a = some ⟨b, off, none⟩ ∧ b < w.heap.size ∧ w.cell? ⟨b, off + j * 3, none⟩ = some (.int .i64 id) ∧ w.cell? ⟨b, off + j * 3 + 1, none⟩ = some (.int .i64 ver) ∧ w.cell? ⟨b, off + j * 3 + 2, none⟩ = some (.slice aa nn cc) ∧ R[j] = ⟨id, ver, vals⟩ ∧ Vec w S 1 encS (.slice aa nn cc) vals := by
  obtain ⟨C, h1, h2, h3⟩ := h
  have hj2 : j < C.length := by rw [← h2, List.length_map] at hj; exact hj
  obtain ⟨b, off, e, hb, hc⟩ := h1.get j hj2
  refine ⟨b, off, C[j].id, C[j].ver, C[j].a, C[j].n, C[j].c, C[j].vals, e, hb, hc 0 _ rfl, hc 1 _ rfl, hc 2 _ rfl, ?_, h3 _ (List.getElem_mem hj2)⟩
  subst h2
  rw [List.getElem_map]; rfl
/-- an ID that is not behind the one before -/
def notB : Option Int → Int → Bool
  | some q, x => decide (x ≤ q)
  | none, _ => false
/-- the first error of a list, behind a record with an ID -/
def allA (s : SchemaL) : Option Int → List RecL → Int
  | _, [] => 0
  | p, r :: R => if checkI s r = 0 then (if notB p r.id = true then 12 else allA s (some r.id) R) else checkI s r
theorem allA_cons (s : SchemaL) (p : Option Int) (r : RecL) (R : List RecL) : allA s p (r :: R) = if checkI s r = 0 then (if notB p r.id = true then 12 else allA s (some r.id) R) else checkI s r := rfl
def allN (s : SchemaL) (R : List RecL) : Int := if checkS s = 0 then (if R.length ≤ 64 then allA s none R else 1) else checkS s
def prevR (R : List RecL) (j : Nat) : Option Int := if j = 0 then none else some (R.getD (j - 1) noRec).id
theorem allA_yes {s : SchemaL} : ∀ (R : List RecL) (p : Option Int), (∀ r ∈ R, checkI s r = 0) → (∀ q r, p = some q → R.head? = some r → q < r.id) → (∀ j (h : j + 1 < R.length), (R[j]'(by omega)).id < R[j + 1].id) → allA s p R = 0
  | [], p, _, _, _ => rfl
  | r :: R, p, h1, h2, h3 => by
    unfold allA
    rw [if_pos (h1 r List.mem_cons_self), if_neg]
    · refine allA_yes R (some r.id) (fun x hx => h1 x (List.mem_cons_of_mem _ hx)) (fun q x hq hx => ?_) (fun j h => h3 (j + 1) (by simpa using h))
      cases hq
      cases R with
      | nil => cases hx
      | cons y R => cases hx; exact h3 0 (by simp)
    · cases p with
      | none => simp [notB]
      | some q =>
        have := h2 q r rfl rfl
        simp [notB]; omega
set_option maxHeartbeats 4000000 in
theorem rall_any (S T : Nat → Prop) (vf vt vn vs rv : Value) (s : SchemaL) (R : List RecL) (w : World) (h : SchemaAt w S vf vt vn vs s) (hr : RecsVec w T rv R) (hl : ∀ r ∈ R, ∀ x ∈ r.vals, x.length ≤ 1000000) (hn : ∀ r ∈ R, r.vals.length ≤ 1000000) (hR : R.length ≤ 1000000) :
    Calls Tryz.prog 55 #[.agg #[vf, vt, vn, vs], rv] w fun e w' => e = .returned (.int .i64 (allN s R)) ∧ Below w.heap.size w w' := by
  obtain ⟨ar, cr, rfl⟩ := hr.slice
  have HS := Lib.hid h; have HR := Lib.hid hr.any; have HL := Lib.hid hl; have HN := Lib.hid hn
  obtain ⟨E, hE⟩ : ∃ E, allN s R = E := ⟨_, rfl⟩
  rw [hE]
  have HE := Lib.hid hE
  clear h hr hl hn hE
  go_enter Tryz.func55, Tryz.ntmps55
  go_wp2_with fail
  refine wp_calls_world (fun W hW => ?_)
  have hb0 : Below w.heap.size w W := by rw [hW]; exact (Below.refl w.heap.size w).alloc (Nat.le_refl _) _
  have hs0 : W.heap[w.heap.size]? = some (.cells #[vf, vt, vn, vs] 43 (0, 0)) := by rw [hW]; exact blk_new rfl
  clear hW
  refine (scheck_any S _ _ _ _ s W (HS.out.below hb0)).mono ?_
  rintro e w1 ⟨rfl, hb⟩
  have hs1 := blk_below hb (lt_of_blk hs0) hs0
  have HB1 := Lib.hid (hb0.trans (hb.mono hb0.size)); have HS1 := Lib.hid hs1
  clear hb hb0 hs0 hs1
  obtain ⟨c, hc⟩ : ∃ c, checkS s = c := ⟨_, rfl⟩
  rw [hc]
  by_cases hc0 : c = 0
  · subst hc0
    have dz : ((0 : Int) != 0) = false := rfl
    by_cases h64 : R.length ≤ 64
    · have d64 : decide ((64 : Int) < (R.length : Int)) = false := by simp; omega
      have HE2 := Lib.hid (show allA s none R = E by rw [← HE.out]; unfold allN; rw [if_pos hc, if_pos h64])
      clear hc HE
      go_wp2_with fail
      go_loopw [19] (fun t wr => ∃ j : Nat, t = .int .i64 j ∧ j ≤ R.length ∧ Hid (allA s (prevR R j) (R.drop j) = E) ∧ Below w1.heap.size w1 wr) (fun t _ => R.length - (intOf t).toNat)
      case atStart => exact ⟨0, rfl, by omega, HE2, Below.refl _ _⟩
      case round =>
        obtain ⟨j, rfl, hj, HT, hbw⟩ := hrel
        have HBW := Lib.hid hbw
        by_cases hlt : j < R.length
        · have hq : decide ((j : Int) < (R.length : Int)) = true := by simp; omega
          have hji : (j : Int) < (R.length : Int) := by omega
          have hbw0 := HB1.out.trans (hbw.mono HB1.out.size)
          obtain ⟨b, off, id, ver, aa, nn, cc, vals, rfl, lb, c0, c1, c2, hRj, hvv⟩ := (HR.out.below hbw0).at j hlt
          obtain ⟨s0, s1, s2, s3⟩ := cellsS (blk_below hbw (lt_of_blk HS1.out) HS1.out)
          have lsr : w.heap.size < wr.heap.size := by have := lt_of_blk HS1.out; have := hbw.size; omega
          have hT := HT.out
          rw [List.drop_eq_getElem_cons hlt, allA_cons] at hT
          have hmem : R[j] ∈ R := List.getElem_mem hlt
          have HLv := Lib.hid (HL.out _ hmem); have HNv := HN.out _ hmem
          have HP := Lib.hid (show j ≠ 0 → ∃ pid : Int, prevR R j = some pid ∧ wr.cell? ⟨b, off + (j - 1) * 3, none⟩ = some (.int .i64 pid) from fun h0 => by
            obtain ⟨b', off', id', ver', aa', nn', cc', vals', he, _, d0, _, _, hR', _⟩ := (HR.out.below hbw0).at (j - 1) (by omega)
            cases he
            refine ⟨id', ?_, d0⟩
            unfold prevR
            rw [if_neg h0, getD_at _ _ (by omega), hR'])
          rw [hRj] at hT HLv HNv
          have HRJ := Lib.hid hRj; have HV := Lib.hid hvv; have HT2 := Lib.hid hT
          clear hT hmem hRj hvv HT hbw
          dsimp only at HLv HNv
          have hvl := HV.out.len.1
          subst hvl
          obtain ⟨ci, hci⟩ : ∃ ci, checkI s ⟨id, ver, vals⟩ = ci := ⟨_, rfl⟩
          go_wp2_with fail
          refine wp_calls_world (fun Wc hWc => ?_)
          have hbc : Below wr.heap.size wr Wc := by rw [hWc]; exact (Below.refl wr.heap.size wr).alloc (Nat.le_refl _) _
          have hy : Wc.heap[wr.heap.size]? = some (.cells #[.int .i64 id, .int .i64 ver, .slice aa vals.length cc] 29 (0, 0)) := by rw [hWc]; exact blk_new rfl
          clear hWc
          refine (rchk_any S _ _ _ _ s ⟨id, ver, vals⟩ _ Wc ((HS.out.below hbw0).below hbc) (HV.out.below hbc) HLv.out HNv).mono ?_
          rw [hci]
          rintro e w2 ⟨rfl, hb⟩
          have hbr := hbc.trans (hb.mono hbc.size)
          have hy2 := blk_below hb (lt_of_blk hy) hy
          have HB2 := Lib.hid (HBW.out.trans (hbr.mono HBW.out.size))
          obtain ⟨r0, r1, r2⟩ := cells3 hy2
          have ly := lt_of_blk hy2
          have HBR := Lib.hid hbr
          clear hb hbc hy hy2 hbr s0 s1 s2 s3 c0 c1 c2
          by_cases hci0 : ci = 0
          · subst hci0
            have hT3 := HT2.out
            rw [hci, if_pos rfl] at hT3
            have HT3 := Lib.hid hT3
            clear hT3 HT2 hci
            by_cases hj0 : j = 0
            · have dj : decide (0 < j) = false := by simp; omega
              have HT4 := Lib.hid (show allA s (prevR R (j + 1)) (R.drop (j + 1)) = E by
                have := HT3.out
                rw [show prevR R j = none by unfold prevR; rw [if_pos hj0]] at this
                rw [← this]
                unfold prevR
                rw [if_neg (by omega), show j + 1 - 1 = j by omega, getD_at _ _ hlt, HRJ.out]; rfl)
              clear HT3 HP
              go_upto_region 12 with fail
              refine wp_region_noPanic ?_
              refine wp_region_held_drew (S := (fun w' => True)) (by kernel_rfl) (trivial) (fun hHeld => ?_)
              refine tH 0 (h := ?_)
              refine tH 1 (h := ?_)
              refine tH 2 (h := ?_)
              refine sH 3 (h := ?_)
              refine sH 4 (h := ?_)
              refine sH 5 (h := ?_)
              refine sH 6 (h := ?_)
              refine sH 7 (h := ?_)
              refine sH 8 (h := ?_)
              refine sH 9 (h := ?_)
              refine sH 10 (h := ?_)
              refine sH 11 (h := ?_)
              refine tH 12 (h := ?_)
              refine wpAnyH_done (by kernel_rfl) ?_ _
              refine NoPanic.normal ?_
              go_wp2_with fail
              go_roundw
              case rel => exact ⟨j + 1, by go_num, by omega, HT4, HB2.out.drew⟩
              case measure => simp [intOf]; omega
            · have dj : decide (0 < j) = true := by simp; omega
              obtain ⟨pid, hpr, hpc⟩ := HP.out hj0
              have hpc2 := (HBR.out.cell (p := ⟨b, off + (j - 1) * 3, none⟩) lb).trans hpc
              have hj1 : (j : Int) - 1 < (R.length : Int) := by omega
              have hj2 : (1 : Int) ≤ (j : Int) := by omega
              have hj3 : ((j : Int) - 1).toNat = j - 1 := by omega
              have hwr : IntKind.i64.wrap ((j : Int) - 1) = (j : Int) - 1 := by rw [IntKind.wrap_i64]; omega
              have hT4 := HT3.out
              rw [hpr] at hT4
              clear HP hpc HT3
              by_cases hle : id ≤ pid
              · have dle : decide (id ≤ pid) = true := by simpa using hle
                have hE12 : E = 12 := by rw [← hT4]; unfold notB; dsimp only; rw [if_pos dle]
                subst hE12
                clear hT4
                go_upto_region 12 with fail
                refine wp_region_noPanic ?_
                refine wp_region_held_drew (S := (fun w' => w'.cell? ⟨b, off + (j - 1) * 3, none⟩ = some (.int .i64 pid) ∧ w'.cell? ⟨wr.heap.size, 0, none⟩ = some (.int .i64 id))) (by kernel_rfl) (⟨hpc2, r0⟩) (fun hHeld => ?_)
                refine tH 0 (h := ?_)
                refine tH 1 (h := ?_)
                refine tH 2 (h := ?_)
                refine tH 3 (h := ?_)
                refine tH 4 (h := ?_)
                refine tH 5 (h := ?_)
                refine tH 6 (h := ?_)
                refine tH 7 (h := ?_)
                refine tH 8 (h := ?_)
                refine tH 9 (h := ?_)
                refine tH 10 (h := ?_)
                refine tH 11 (h := ?_)
                refine tH 12 (h := ?_)
                refine wpAnyH_done (by kernel_rfl) ?_ _
                refine NoPanic.normal ?_
                go_wp2_with fail
                go_ret
                exact ⟨rfl, HB1.out.trans (HB2.out.drew.mono HB1.out.size)⟩
              · have dle : decide (id ≤ pid) = false := by simpa using hle
                have HT5 := Lib.hid (show allA s (prevR R (j + 1)) (R.drop (j + 1)) = E by
                  rw [← hT4]
                  unfold notB; dsimp only
                  rw [if_neg (by rw [dle]; decide)]
                  unfold prevR
                  rw [if_neg (by omega), show j + 1 - 1 = j by omega, getD_at _ _ hlt, HRJ.out])
                clear hT4
                go_upto_region 12 with fail
                refine wp_region_noPanic ?_
                refine wp_region_held_drew (S := (fun w' => w'.cell? ⟨b, off + (j - 1) * 3, none⟩ = some (.int .i64 pid) ∧ w'.cell? ⟨wr.heap.size, 0, none⟩ = some (.int .i64 id))) (by kernel_rfl) (⟨hpc2, r0⟩) (fun hHeld => ?_)
                refine tH 0 (h := ?_)
                refine tH 1 (h := ?_)
                refine tH 2 (h := ?_)
                refine tH 3 (h := ?_)
                refine tH 4 (h := ?_)
                refine tH 5 (h := ?_)
                refine tH 6 (h := ?_)
                refine tH 7 (h := ?_)
                refine tH 8 (h := ?_)
                refine tH 9 (h := ?_)
                refine tH 10 (h := ?_)
                refine tH 11 (h := ?_)
                refine tH 12 (h := ?_)
                refine wpAnyH_done (by kernel_rfl) ?_ _
                refine NoPanic.normal ?_
                go_wp2_with fail
                go_roundw
                case rel => exact ⟨j + 1, by go_num, by omega, HT5, HB2.out.drew⟩
                case measure => simp [intOf]; omega
          · have hE3 : E = ci := by rw [← HT2.out, hci, if_neg hci0]
            have dne : (ci != (0 : Int)) = true := by simpa using hci0
            subst hE3
            clear HT2 hci HE2 HP
            go_wp2_with fail
            go_ret
            exact ⟨rfl, HB1.out.trans (HB2.out.mono HB1.out.size)⟩
        · have hq : decide ((j : Int) < (R.length : Int)) = false := by simp; omega
          obtain rfl : j = R.length := by omega
          have hE0 : E = 0 := by rw [← HT.out, List.drop_length]; rfl
          subst hE0
          go_wp2_with fail
          go_ret
          exact ⟨rfl, HB1.out.trans (hbw.mono HB1.out.size)⟩
    · have d64 : decide ((64 : Int) < (R.length : Int)) = true := decide_eq_true (by omega)
      have hE1 : E = 1 := by rw [← HE.out]; unfold allN; rw [if_pos hc, if_neg h64]
      subst hE1
      clear hc HE
      go_wp2_with fail
      go_ret
      exact ⟨rfl, HB1.out⟩
  · have dne : (c != (0 : Int)) = true := by simpa using hc0
    have hE1 : E = c := by rw [← HE.out]; unfold allN; rw [hc, if_neg hc0]
    subst hE1
    clear HE
    go_wp2_with fail
    go_ret
    exact ⟨rfl, HB1.out⟩
end
section
set_option maxRecDepth 100000
open Go.RowKit
/-- the blocks of records for block key number i -/
def blkPair (k : Int × Int) (i : Nat) (K : List (Int × Int)) (r : RecL) : (Int × Bool) × Int := (bhashN k i (K.map (compN r.vals)), r.id)
def blocksN (k : Int × Int) (i : Nat) (K : List (Int × Int)) (R : List RecL) : List BkP := addAll [] (R.map (blkPair k i K))
theorem infoIn : (Tryz.prog.info? 3).map (fun i => (i.zero, i.size, i.bytes)) = some (some (.int .i64 0), 1, 8) := by kernel_rfl
theorem pB_set (C : List BkV) (i : Nat) (x : BkV) : (C.set i x).map pB = (C.map pB).set i (pB x) := List.map_set
theorem pB_getD (C : List BkV) (i : Nat) : ((C.map pB).getD i default).1 = (C.getD i default).h := by
  rw [List.getD, List.getD, List.getElem?_map]
  cases C[i]? <;> rfl
theorem put_at (C : List BkV) (t : Nat) (h id : Int) (ht : t < C.length) (hl : ∀ q, q < t → (C.getD q default).h < h) (he : (C.getD t default).h = h) (a : Option Addr) (n c : Nat) : (C.set t ⟨C[t].h, a, n, c, C[t].ids ++ [id]⟩).map pB = addB (C.map pB) h id := by
  rw [addB_at h id (C.map pB) t (by simpa using ht) (fun q hq => by rw [pB_getD]; exact hl q hq) (by rw [pB_getD]; exact he), pB_set, List.getElem_map]
  rfl
theorem put_new (C : List BkV) (t : Nat) (h id : Int) (ht : t ≤ C.length) (hl : ∀ q, q < t → (C.getD q default).h < h) (hg : t < C.length → h < (C.getD t default).h) (a : Option Addr) (n c : Nat) (hlt : t < (C.take t ++ newBk h :: C.drop t).length) :
    ((C.take t ++ newBk h :: C.drop t).set t ⟨(C.take t ++ newBk h :: C.drop t)[t].h, a, n, c, (C.take t ++ newBk h :: C.drop t)[t].ids ++ [id]⟩).map pB = addB (C.map pB) h id := by
  have hm : (C.take t).length = t := by rw [List.length_take]; omega
  have hx : (C.take t ++ newBk h :: C.drop t)[t] = newBk h := by
    rw [List.getElem_append_right (by omega)]
    simp [hm]
  rw [addB_new h id (C.map pB) t (by simpa using ht) (fun q hq => by rw [pB_getD]; exact hl q hq) (fun h' => by rw [pB_getD]; exact hg (by simpa using h')), hx, List.set_append_right _ _ (by omega), hm, Nat.sub_self, List.set_cons_zero, List.map_append, List.map_cons, List.map_take, List.map_drop]
  rfl
def BlocksPost (L : List BkP) (w : World) (e : Ending) (w' : World) : Prop := ∃ v, e = .returned v ∧ BlocksAt w' (fun b => w.heap.size ≤ b) v L ∧ Below w.heap.size w w'
set_option maxHeartbeats 8000000 in
theorem blocks_yes (T : Nat → Prop) (k : Int × Int) (kv : Value) (K : List (Int × Int)) (i : Nat) (rv : Value) (R : List RecL) (w : World) (hk : Vec w T 2 encC kv K) (hr : RecsVec w Any1 rv R) (hn : ∀ r ∈ R, r.vals.length ≤ 1000000) (ok : ∀ r ∈ R, CompsOk K r.vals) (hR : R.length ≤ 1000) (hi : i < 100) :
    Calls Tryz.prog 56 #[.agg #[.int .u64 k.1, .int .u64 k.2], .agg #[kv], .int .i64 i, rv] w (BlocksPost (blocksN k i K R) w) := by
  obtain ⟨ak, ck, rfl⟩ := hk.slice
  obtain ⟨ar, cr, rfl⟩ := hr.slice
  obtain ⟨G, hG⟩ : ∃ G, blocksN k i K R = G := ⟨_, rfl⟩
  rw [hG]
  have HG := Lib.hid hG
  have HK := Lib.hid hk; have HR := Lib.hid hr; have HN := Lib.hid hn; have HOk := Lib.hid ok
  clear hk hr hn ok hG
  go_enter Tryz.func56, Tryz.ntmps56
  go_wp2_with fail
  refine wp_world (fun W hW => ?_)
  have hb0 : Below w.heap.size w W := by rw [hW]; exact ((Below.refl w.heap.size w).alloc (Nat.le_refl _) _).alloc (by simp) _
  have hk0 : W.heap[w.heap.size]? = some (.cells #[.int .u64 k.1, .int .u64 k.2] 26 (0, 0)) := by rw [hW]; exact blk_old (blk_new rfl)
  have hc0 : W.heap[w.heap.size + 1]? = some (.cells #[.slice ak K.length ck] 51 (0, 0)) := by rw [hW]; exact blk_new (by simp)
  clear hW
  have HB0 := Lib.hid hb0; have HK0 := Lib.hid hk0; have HC0 := Lib.hid hc0
  have lk := lt_of_blk hk0; have lc := lt_of_blk hc0
  clear hb0 hk0 hc0
  go_loopw [9, 18] (fun v t wr => ∃ (j : Nat) (C : List BkV), t = .int .i64 j ∧ j ≤ R.length ∧ C.length ≤ j ∧ BRow W v C wr ∧ AscBk (C.map pB) ∧ Hid (∀ x ∈ C, x.ids.length ≤ j) ∧ Hid (addAll (C.map pB) ((R.drop j).map (blkPair k i K)) = G)) (fun _ t _ => R.length - (intOf t).toNat)
  case atStart => exact ⟨0, [], rfl, by omega, by simp, BRow.nil (Below.refl _ _), List.Pairwise.nil, Lib.hid (fun x hx => by simp at hx), HG⟩
  case round =>
    obtain ⟨j, C, rfl, hj, hCl, hrow, hasc, HLen, HT⟩ := hrel
    have HRow := Lib.hid hrow; have HAsc := Lib.hid hasc
    clear hrow hasc
    have hbw := HRow.out.own.2
    by_cases hlt : j < R.length
    · have hq : decide ((j : Int) < (R.length : Int)) = true := by simp; omega
      have hji : (j : Int) < (R.length : Int) := by omega
      have hbW := HB0.out.trans (hbw.mono HB0.out.size)
      obtain ⟨b, off, id, ver, aa, nn, cc, vals, rfl, lb, c0, c1, c2, hRj, hvv⟩ := (HR.out.below hbW).at j hlt
      obtain ⟨k0, k1⟩ := cells2K (blk_below hbw lk HK0.out)
      have kc := (hbw.cell (p := ⟨w.heap.size + 1, 0, none⟩) lc).trans (by rw [cell_of_row _ _ _ _ _ _ HC0.out]; rfl : W.cell? ⟨w.heap.size + 1, 0, none⟩ = some (.slice ak K.length ck))
      have lkr : w.heap.size < wr.heap.size := by have := hbw.size; omega
      have lcr : w.heap.size + 1 < wr.heap.size := by have := hbw.size; omega
      have hmem : R[j] ∈ R := List.getElem_mem hlt
      have hok := HOk.out _ hmem; have hvn := HN.out _ hmem
      rw [hRj] at hok hvn
      dsimp only at hok hvn
      have hT := HT.out
      rw [List.drop_eq_getElem_cons hlt, List.map_cons, hRj] at hT
      obtain ⟨⟨h, ok⟩, hh⟩ : ∃ p, bhashN k i (K.map (compN vals)) = p := ⟨_, rfl⟩
      have hT2 : addAll (if ok = true then addB (C.map pB) h id else C.map pB) ((R.drop (j + 1)).map (blkPair k i K)) = G := by
        rw [← hT]
        simp only [addAll, blkPair, hh]
      have HT2 := Lib.hid hT2; have HH := Lib.hid hh; have HV := Lib.hid hvv; have HOk1 := Lib.hid hok
      clear hT hT2 hh hvv hok hmem hRj HT hbW
      have hvl := HV.out.len.1
      subst hvl
      have HBw := Lib.hid hbw
      clear hbw
      go_wp2_with fail
      refine wp_calls_world (fun Wc hWc => ?_)
      have hbc : Below wr.heap.size wr Wc := by rw [hWc]; exact (Below.refl wr.heap.size wr).alloc (Nat.le_refl _) _
      have hy : Wc.heap[wr.heap.size]? = some (.cells #[.int .i64 id, .int .i64 ver, .slice aa vals.length cc] 29 (0, 0)) := by rw [hWc]; exact blk_new rfl
      clear hWc
      refine (bhash_yes T k _ K i id ver _ vals Wc ((HK.out.below HB0.out).below HBw.out |>.below hbc) (HV.out.below hbc) hvn HOk1.out hi).mono ?_
      rw [HH.out]
      rintro e w2 ⟨rfl, hb⟩
      have hbr := hbc.trans (hb.mono hbc.size)
      have hy2 := blk_below hb (lt_of_blk hy) hy
      have HRow2 := Lib.hid (HRow.out.below hbr)
      have HY2 := Lib.hid hy2
      clear hb hbc hy hy2 k0 k1 kc c0 c1 c2
      cases ok
      · have HT3 := Lib.hid (show addAll (C.map pB) ((R.drop (j + 1)).map (blkPair k i K)) = G by have := HT2.out; simpa using this)
        clear HT2
        go_wp2_with fail
        go_roundw
        case rel => exact ⟨j + 1, C, by go_num, by omega, by omega, HRow2.out, HAsc.out, Lib.hid (fun x hx => Nat.le_succ_of_le (HLen.out x hx)), HT3⟩
        case measure => simp [intOf]; omega
      · have HT3 := Lib.hid (show addAll (addB (C.map pB) h id) ((R.drop (j + 1)).map (blkPair k i K)) = G by have := HT2.out; simpa using this)
        clear HT2
        go_wp2_with fail
        refine (bs_any (fun b => W.heap.size ≤ b) _ C h w2 (OwnV.vec (size := 2) (enc := encBk) (fun _ => rfl) HRow2.out.own) (fun p q hpq hq' => by have := HAsc.out.le p q hpq (by simpa using hq'); rwa [pB_getD, pB_getD] at this) (by omega)).mono ?_
        rintro e w3 ⟨at_, ha1, ha2, ha3, rfl, hb3⟩
        have hy3 := blk_below hb3 (lt_of_blk HY2.out) HY2.out
        have HRow3 := Lib.hid (HRow2.out.below hb3)
        have HY3 := Lib.hid hy3
        have HA2 := Lib.hid ha2; have HA3 := Lib.hid ha3
        have hsz3 : wr.heap.size < w3.heap.size := lt_of_blk hy3
        obtain ⟨f, hf⟩ : ∃ f, decide (at_ < C.length ∧ (C.getD at_ default).h = h) = f := ⟨_, rfl⟩
        rw [hf]
        clear hy3 ha2 ha3 hb3 HRow2 HY2
        go_upto_if 39 with (fail)
        go_cut [9] (fun s9 wx => ∃ C' : List BkV, ∃ ht : at_ < C'.length, BRow W s9 C' wx ∧ wx.heap[wr.heap.size]? = some (.cells #[.int .i64 id, .int .i64 ver, .slice aa vals.length cc] 29 (0, 0)) ∧ C'.length ≤ C.length + 1 ∧ Hid (∀ x ∈ C', x.ids.length ≤ j) ∧ Hid (∀ a n c, (C'.set at_ ⟨C'[at_].h, a, n, c, C'[at_].ids ++ [id]⟩).map pB = addB (C.map pB) h id))
        case first =>
          cases f
          · have hnf := of_decide_eq_false hf
            clear hf
            go_wp2_with fail
            refine wp_calls_world (fun W4 hW4 => ?_)
            have hb4 : Below w3.heap.size w3 W4 := by rw [hW4]; exact (Below.refl w3.heap.size w3).alloc (Nat.le_refl _) _
            have hx4 : W4.heap[w3.heap.size]? = some (.cells #[.int .u64 h, .slice none 0 0] 93 (0, 0)) := by rw [hW4]; exact blk_new rfl
            clear hW4
            have HRow4 := HRow3.out.below hb4
            have hy4 := blk_below hb4 (lt_of_blk HY3.out) HY3.out
            have hnb : ∀ g, (u9).ownBlock = some g → g < wr.heap.size := fun g hg => (HRow.out.own.1.lt g hg).2
            refine (insert_bk W _ C at_ h w3.heap.size W4 HRow4.own hx4 (fun e => by have := hnb _ e; omega) (by omega) ha1).mono ?_
            rintro e w5 ⟨v5, rfl, ho5, hk5, hz5, hv5⟩
            have hrow5 := HRow4.put at_ ha1 h ho5 hk5 hv5
            have hy5 := hk5 wr.heap.size _ (fun e => by have := hnb _ e.symm; omega) hy4
            have hl5 : at_ < (C.take at_ ++ newBk h :: C.drop at_).length := by simp; omega
            have HRow5 := Lib.hid hrow5; have HY5 := Lib.hid hy5
            clear hrow5 hy5 hb4 hx4 HRow4 hy4 ho5 hk5 hv5
            go_wp2_with fail
            go_meet
            exact ⟨_, hl5, HRow5.out, HY5.out, by simp; omega, Lib.hid (fun x hx => by rcases List.mem_append.1 hx with h1 | h1; · exact HLen.out x (List.mem_of_mem_take h1)
                                                                                       · rcases List.mem_cons.1 h1 with h2 | h2; · rw [h2]; simp [newBk]
                                                                                         · exact HLen.out x (List.mem_of_mem_drop h2)), Lib.hid (fun a n c => put_new C at_ h id ha1 HA2.out (fun h' => by have h1 := HA3.out at_ (Nat.le_refl _) h'; have h2 : (C.getD at_ default).h ≠ h := fun e => hnf ⟨h', e⟩; omega) a n c hl5)⟩
          · have hyf := of_decide_eq_true hf
            clear hf
            go_wp2_with fail
            go_meet
            exact ⟨C, hyf.1, HRow3.out, HY3.out, by omega, HLen, Lib.hid (fun a n c => put_at C at_ h id hyf.1 HA2.out hyf.2 a n c)⟩
        case rest =>
          obtain ⟨C', ht, hrow', hy', hl', HLen', HPut⟩ := hcut
          have HRow' := Lib.hid hrow'
          rcases hrow'.own.1.2 with ⟨_, h0⟩ | ⟨g, cap, cur, rfl, hg, hgc, hn1, hn2, hn3, hn4⟩
          · have : C'.length = 0 := h0
            omega
          obtain ⟨x, hx⟩ : ∃ x, C'[at_] = x := ⟨_, rfl⟩
          have hids := hrow'.ids _ (List.getElem_mem ht)
          have hc1 : wc.cell? ⟨g, at_ * 2 + 1, none⟩ = some (idV C'[at_]) := by
            obtain ⟨b0, o0, e0, _, hc⟩ := (OwnV.vec (size := 2) (enc := encBk) (fun _ => rfl) hrow'.own).get at_ ht
            cases e0
            have := hc 1 _ rfl
            rwa [Nat.zero_add] at this
          rw [hx] at hids hc1
          obtain ⟨xh, xa, xn, xc, xi⟩ := x
          dsimp only [idV] at hids hc1
          have hfr := (frozen_of_row _ _ _ _ _ hgc : wc.frozen? ⟨g, at_ * 2 + 1, none⟩ = false)
          obtain ⟨r0, r1, r2⟩ := cells3 hy'
          have lgc := lt_of_blk hgc; have lyc := lt_of_blk hy'
          have HPut2 := HPut.out
          rw [hx] at HPut2
          have HP2 := Lib.hid HPut2
          have HIds := Lib.hid hids; have HX := Lib.hid hx
          have htn : (at_ : Int) < (C'.length : Int) := by omega
          obtain ⟨i0, hi0, hz0, hz1, hz2⟩ := info_parts infoIn
          have HI := Lib.hid hi0; have HZ0 := Lib.hid hz0; have HZ1 := Lib.hid hz1; have HZ2 := Lib.hid hz2
          have hoff := hrow'.off _ (List.getElem_mem ht)
          rw [hx] at hoff
          have hWc := hrow'.own.2
          have HWc := Lib.hid hWc
          have hWz := hWc.size
          have HOff := Lib.hid (show some g ≠ (Value.slice xa xn xc).ownBlock from by
            rcases hoff with h1 | h1
            · rw [show (Value.slice xa xn xc).ownBlock = none from h1]; simp
            · exact fun e => h1 (by rw [show (idV ⟨xh, xa, xn, xc, xi⟩).ownBlock = some g from e.symm]; rfl))
          have hxil : xi.length ≤ j := by have := HLen'.out _ (List.getElem_mem ht); rw [HX.out] at this; exact this
          clear hgc hn1 hn2 hn3 hn4 hy' hrow' HPut HPut2 hids hx hi0 hz0 hz1 hz2 hoff hWc r1 r2
          have bA := ((Below.refl wc.heap.size wc).drew).alloc (Nat.le_refl _) (.cells #[.int .i64 id] 3)
          have hown := own_below HIds.out bA
          have hnews : ∀ j u, [Value.int .i64 id][j]? = some u → ((wc.drew).alloc (.cells #[.int .i64 id] 3)).cell? ((⟨wc.heap.size, 0, none⟩ : Addr).add j) = some u := fun j u hu => by
            have hX : ((wc.drew).alloc (.cells #[.int .i64 id] 3)).heap[wc.heap.size]? = some (.cells #[.int .i64 id] 3 (0, 0)) := blk_new rfl
            rw [add_plain, cell_of_row _ _ _ _ _ _ hX, Nat.zero_add]; simpa using hu
          have hone : ∀ u ∈ [Value.int .i64 id], u.oneCell' = true := by intro u hu; simp at hu; subst hu; rfl
          go_wp2_with fail
          refine wp_region_noPanic ?_
          refine wp_region_k (by kernel_rfl) (fun w' => w'.cell? ⟨g, at_ * 2 + 1, none⟩ = some (.slice xa xn xc) ∧ w'.cell? ⟨wr.heap.size, 0, none⟩ = some (.int .i64 id)) 10 (⟨hc1, r0⟩) (fun hHeld => ?_)
          refine t0 0 (h := ?_)
          refine t0 1 (h := ?_)
          refine tK 2 (h := ?_)
          refine tK 3 (h := ?_)
          refine tK 4 (h := ?_)
          refine tK 5 (h := ?_)
          refine tK 6 (h := ?_)
          refine tK 7 (h := ?_)
          refine tK 8 (h := ?_)
          refine wpAnyK_ready (rs := [9]) (by kernel_rfl) (by simp) ?_
          refine AllReadyK.cons rfl (fun K hK => ?_) AllReadyK.nil
          go_simp
          skip
          refine shutK hK (⟨(bA.cell (p := ⟨g, at_ * 2 + 1, none⟩) lgc).trans hc1, (bA.cell (p := ⟨wr.heap.size, 0, none⟩) lyc).trans r0⟩) (fun hHeld => ?_)
          clear hK K
          try simp only [List.getElem_toArray, List.getElem_cons_zero, List.getElem_cons_succ, Act.put, List.setIfInBounds_toArray, List.set_cons_zero, List.set_cons_succ]
          refine wpAnyK_ready (rs := [10]) (by kernel_rfl) (by simp) ?_
          refine AllReadyK.cons rfl (fun K hK => ?_) AllReadyK.nil
          refine wp_append_lies _ (.tmp 52) (.tmp 55) 22 (by rfl) W.heap.size 3 i0 (.int .i64 0) 1 8 Tryz.underlying22 HI.out HZ0.out HZ1.out HZ2.out rfl (by decide) (.slice xa xn xc) xi.length (xi.map (Value.int .i64)) (by rfl) hown ⟨wc.heap.size, 0, none⟩ 1 1 [.int .i64 id] (by rfl) rfl hnews hone (by omega) (by unfold maxLen; omega) (by omega) (by simp; omega) (wc.heap.size + 1) (by simp) ?_; intro g5 cap5 w5 hown5 hg5 hat5 hlt5; have cY5 : w5.cell? ⟨g, at_ * 2 + 1, none⟩ = some (.slice xa xn xc) := (hg5.cell_far ⟨g, at_ * 2 + 1, none⟩ (by simp; omega) HOff.out).trans ((bA.cell (p := ⟨g, at_ * 2 + 1, none⟩) lgc).trans hc1); have fY5 : w5.frozen? ⟨g, at_ * 2 + 1, none⟩ = false := (hg5.frozen_far ⟨g, at_ * 2 + 1, none⟩ (by simp; omega) HOff.out).trans ((bA.frozen (p := ⟨g, at_ * 2 + 1, none⟩) lgc).trans hfr)
          refine shutK_off hK (by decide) ?_
          clear hK K
          try simp only [List.getElem_toArray, List.getElem_cons_zero, List.getElem_cons_succ, Act.put, List.setIfInBounds_toArray, List.set_cons_zero, List.set_cons_succ]
          have hrA := (HRow'.out.below bA).add at_ ht g rfl (.slice (some ⟨g5, 0, none⟩) (xi.length + 1) cap5) id _ _ _ rfl (w1 := w5) (by rw [HX.out, List.map_append]; exact hown5) (by rw [HX.out]; exact fun k o hk hko => (hg5.block k (lt_of_blk hko) hk).trans hko)
            ((HWc.out.trans (bA.mono hWz)).grown hg5 (Nat.le_trans hWz bA.size) (fun q hq => ((own_below' HIds.out bA).lt q hq).1)) (by
              rw [HX.out]
              rcases hat5 with h1 | h1
              · exact .inl h1
              · exact .inr (by rw [h1]; simp [Value.ownBlock]))
          have hpm := HP2.out (some ⟨g5, 0, none⟩) (xi.length + 1) cap5
          rw [HX.out] at hrA
          have HRA := Lib.hid hrA; have HPM := Lib.hid hpm
          clear hrA hpm hown5 hg5 hat5 hown hnews hone bA
          refine wpAnyK_ready (rs := [11]) (by kernel_rfl) (by simp) ?_
          refine AllReadyK.cons rfl (fun K hK => ?_) AllReadyK.nil
          go_simp
          skip
          refine shutK_off hK (by decide) ?_
          clear hK K
          try simp only [List.getElem_toArray, List.getElem_cons_zero, List.getElem_cons_succ, Act.put, List.setIfInBounds_toArray, List.set_cons_zero, List.set_cons_succ]
          refine wpAnyK_ready (rs := [12]) (by kernel_rfl) (by simp) ?_
          refine AllReadyK.cons rfl (fun K hK => ?_) AllReadyK.nil
          go_simp
          skip
          refine shutK_off hK (by decide) ?_
          clear hK K
          try simp only [List.getElem_toArray, List.getElem_cons_zero, List.getElem_cons_succ, Act.put, List.setIfInBounds_toArray, List.set_cons_zero, List.set_cons_succ]
          refine wpAnyK_ready (rs := [13]) (by kernel_rfl) (by simp) ?_
          refine AllReadyK.cons rfl (fun K hK => ?_) AllReadyK.nil
          go_simp
          skip
          refine shutK_off hK (by decide) ?_
          clear hK K
          try simp only [List.getElem_toArray, List.getElem_cons_zero, List.getElem_cons_succ, Act.put, List.setIfInBounds_toArray, List.set_cons_zero, List.set_cons_succ]
          refine wpAnyK_done (by kernel_rfl) ?_ _
          refine NoPanic.normal ?_
          go_wp2_with fail
          go_roundw
          case rel =>
            refine ⟨j + 1, C'.set at_ ⟨xh, some ⟨g5, 0, none⟩, xi.length + 1, cap5, xi ++ [id]⟩, by go_num, by omega, by rw [List.length_set]; omega, HRA.out, ?_, ?_, ?_⟩
            · rw [HPM.out]; exact HAsc.out.add _ _
            · refine Lib.hid fun x hx => ?_
              rcases List.mem_or_eq_of_mem_set hx with h1 | h1
              · exact Nat.le_succ_of_le (HLen'.out x h1)
              · rw [h1]; simp; omega
            · exact Lib.hid (by rw [HPM.out]; exact HT3.out)
          case measure => simp [intOf]; omega
    · have hq : decide ((j : Int) < (R.length : Int)) = false := by simp; omega
      obtain rfl : j = R.length := by omega
      have hT := HT.out
      rw [List.drop_length] at hT
      have hT2 : C.map pB = G := hT
      have HT2 := Lib.hid hT2
      clear hT hT2
      go_wp2_with fail
      go_ret
      exact ⟨_, rfl, by rw [← HT2.out]; exact HRow.out.at.move (Nat.le_refl _) (fun x _ hx => ⟨rfl, Nat.le_trans HB0.out.size hx⟩), HB0.out.trans (hbw.mono HB0.out.size)⟩
end
section
set_option maxRecDepth 100000
open Go.RowKit
/-- parameters that are dealt for n fields, the first j of them -/
structure ParsD (n j : Nat) (P : List ParL) : Prop where
  len : P.length = j
  par : ∀ i, i < j → ParOk (P.getD i default) ∧ (P.getD i default).salt < n ∧ (P.getD i default).salt ≠ i
theorem ParsD.nil (n : Nat) : ParsD n 0 [] := ⟨rfl, fun i hi => by omega⟩
theorem ParsD.snoc {n j : Nat} {P : List ParL} {p : ParL} (h : ParsD n j P) (hp : ParOk p) (h1 : p.salt < n) (h2 : p.salt ≠ j) : ParsD n (j + 1) (P ++ [p]) := by
  refine ⟨by simp [h.len], fun i hi => ?_⟩
  by_cases hij : i < j
  · have e : (P ++ [p]).getD i default = P.getD i default := by rw [List.getD, List.getD, List.getElem?_append_left (by rw [h.len]; exact hij)]
    rw [e]; exact h.par i hij
  · have hij' : i = j := by omega
    subst hij'
    have e : (P ++ [p]).getD i default = p := by rw [List.getD, List.getElem?_append_right (by rw [h.len]; exact Nat.le_refl _), h.len, Nat.sub_self]; rfl
    rw [e]; exact ⟨hp, h1, h2⟩
theorem ParsD.ok {n : Nat} {P : List ParL} (h : ParsD n n P) : ParsOk P := ⟨fun i hi => (h.par i (by rw [← h.len]; exact hi)).1, fun i hi => by have := (h.par i (by rw [← h.len]; exact hi)).2; rw [h.len]; exact this⟩
end
section
set_option maxRecDepth 100000
open Go.RowKit
attribute [local go_sem] toList_mk mk_size bytes_append
theorem ext_one (s : ByteArray) (k : Nat) (h : k < s.size) : s.extract k (k + 1) = ⟨[s[k]].toArray⟩ := by
  have hl : s.data.toList.length = s.size := by simp
  have := ext_mk s.data.toList k (k + 1) (by omega)
  unfold mkS at this
  have e : (⟨s.data.toList.toArray⟩ : ByteArray) = s := by simp
  rw [e] at this
  rw [this]
  congr 2
  rw [take_snoc' s k h, List.drop_append_of_le_length (by rw [List.length_take]; omega), List.drop_eq_nil_of_le (by rw [List.length_take]; omega), List.nil_append]
set_option maxHeartbeats 1000000 in
theorem rletters_any (s : ByteArray) (w : World) (hs : s.size ≤ 1000000) :
    Calls Tryz.prog 161 #[.string s] w fun e w' => e = .returned (strV (lettersL s.data.toList)) ∧ w = w' := by
  have hl : s.data.toList.length = s.size := by simp
  have HL := Lib.hid hl; clear hl
  go_enter Tryz.func161, Tryz.ntmps161
  go_wp2_with fail
  go_loop [3, 4] (fun o i => ∃ k : Nat, k ≤ s.size ∧ i = .int .i64 k ∧ o = strV (lettersL (s.data.toList.take k))) (fun _ i => s.size - (intOf i).toNat)
  case atStart => exact ⟨0, by omega, rfl, rfl⟩
  case round =>
    obtain ⟨k, hk, rfl, rfl⟩ := hrel
    by_cases hlt : k < s.size
    · have hq : decide ((k : Int) < s.size) = true := by simp; omega
      have ht := Lib.hid (take_snoc' s k hlt)
      have hb := s[k].toNat_lt
      have hlen : (lettersL (s.data.toList.take k)).length ≤ 1000000 := by have := letters_len (s.data.toList.take k); have := List.length_take_le k s.data.toList; omega
      have hext := ext_one s k hlt
      cases hlo : isLow s[k]
      · have HN := Lib.hid (letters_no (s.data.toList.take k) s[k] hlo)
        have hc := hlo
        rw [low_iff, decide_eq_false_iff_not] at hc
        have hc' : (97 ≤ (s[k].toNat : Int) ∧ 122 < (s[k].toNat : Int)) ∨ (s[k].toNat : Int) < 97 := by omega
        clear hc hlo hext
        rcases hc' with ⟨g1, g2⟩ | g1
        all_goals
          go_wp2_with fail
          go_round
          case rel => exact ⟨k + 1, by omega, by go_num, by rw [ht.out, HN.out]⟩
          case measure => simp [intOf]; omega
      · have HY := Lib.hid (letters_yes (s.data.toList.take k) s[k] hlo)
        have hc := hlo
        rw [low_iff, decide_eq_true_iff] at hc
        obtain ⟨g1, g2⟩ := hc
        clear hlo
        go_wp2_with fail
        go_round
        case rel => exact ⟨k + 1, by omega, by go_num, by rw [ht.out, HY.out]⟩
        case measure => simp [intOf]; omega
    · obtain rfl : k = s.size := by omega
      have hq : decide ((s.size : Int) < s.size) = false := by simp
      have HF := Lib.hid (List.take_of_length_le (by rw [HL.out]; exact Nat.le_refl _) : s.data.toList.take s.size = s.data.toList)
      go_wp2_with fail
      go_ret
      exact ⟨by show Ending.returned (strV (lettersL (s.data.toList.take s.size))) = _; rw [HF.out], rfl⟩
theorem join_snoc (T : List (List UInt8)) (x : List UInt8) : joinL (T ++ [x]) = if T = [] then x else joinL T ++ [32] ++ x := by
  induction T with
  | nil => rfl
  | cons t T ih =>
    rw [if_neg (by simp)]
    by_cases hT : T = []
    · subst hT; simp [joinL]
    · rw [if_neg hT] at ih
      rw [List.cons_append, join_cons_ne _ _ (by simp), ih, join_cons_ne _ _ hT]; simp
theorem join_take_len (L : List (List UInt8)) : ∀ k, (joinL (L.take k)).length ≤ (joinL L).length := by
  induction L with
  | nil => intro k; simp
  | cons a L ih =>
    intro k
    cases k with
    | zero => simp [joinL]
    | succ k =>
      rw [List.take_succ_cons]
      by_cases hk : L.take k = []
      · rw [hk]
        by_cases hL : L = []
        · subst hL; simp [joinL]
        · rw [join_cons_ne _ _ hL]; simp [joinL]
      · have hL : L ≠ [] := by intro e; subst e; simp at hk
        rw [join_cons_ne _ _ hk, join_cons_ne _ _ hL]
        have := ih k; simp; omega
set_option maxHeartbeats 1000000 in
theorem rjoin_any (S : Nat → Prop) (v : Value) (L : List (List UInt8)) (w : World) (h : Vec w S 1 encS v L) (hn : L.length ≤ 1000000) (hj : (joinL L).length ≤ 1000000000) :
    Calls Tryz.prog 220 #[v] w fun e w' => e = .returned (strV (joinL L)) ∧ w = w' := by
  obtain ⟨a, cap, rfl⟩ := h.slice
  have HV := Lib.hid h; clear h
  go_enter Tryz.func220, Tryz.ntmps220
  go_wp2_with fail
  go_loop [3, 4] (fun o i => ∃ k : Nat, k ≤ L.length ∧ i = .int .i64 k ∧ o = strV (joinL (L.take k))) (fun _ i => L.length - (intOf i).toNat)
  case atStart => exact ⟨0, by omega, rfl, rfl⟩
  case round =>
    obtain ⟨k, hk, rfl, rfl⟩ := hrel
    have hlen := join_take_len L k
    by_cases hlt : k < L.length
    · have hq : decide ((k : Int) < L.length) = true := by simp; omega
      obtain ⟨b, off, rfl, _, hb, hc⟩ := vec_cell1 HV.out (by omega)
      have c1 := hc k hlt
      have htk := take_snocA L k hlt
      rw [show (default : List UInt8) = [] from rfl] at htk
      have hxl := join_take_len L (k + 1)
      have hsn := join_snoc (L.take k) (L.getD k [])
      rw [← htk] at hsn
      obtain ⟨x, hx⟩ : ∃ x, L.getD k [] = x := ⟨_, rfl⟩
      rw [hx] at c1 htk hsn
      have hx1 : x.length ≤ 1000000000 := by
        rw [hsn] at hxl
        split at hxl
        · omega
        · simp at hxl; omega
      have HSn := Lib.hid hsn
      clear hc htk hsn hx hxl
      by_cases hk0 : k = 0
      · subst hk0
        have e0 : joinL ([] : List (List UInt8)) = [] := rfl
        rw [Nat.add_zero] at c1
        go_wp2_with fail
        go_round
        case rel => exact ⟨1, by omega, by go_num, by rw [HSn.out, if_pos (by simp)]⟩
        case measure => simp [intOf]; omega
      · have hq0 : decide ((0 : Int) < k) = true := by simp; omega
        have hk1 : 0 < k := by omega
        have hne : L.take k ≠ [] := by intro e; have := congrArg List.length e; rw [List.length_take, List.length_nil] at this; omega
        have HNe := Lib.hid hne
        clear hk0 hne
        go_wp2_with fail
        go_round
        case rel => exact ⟨k + 1, by omega, by go_num, by rw [HSn.out, if_neg HNe.out]; simp⟩
        case measure => simp [intOf]; omega
    · obtain rfl : k = L.length := by omega
      have hq : decide ((L.length : Int) < L.length) = false := by simp
      have HF := Lib.hid (List.take_of_length_le (Nat.le_refl _) : L.take L.length = L)
      go_wp2_with fail
      go_ret
      exact ⟨rfl, rfl⟩
end
section
set_option maxRecDepth 100000
open Go.RowKit
attribute [local go_sem] toList_mk mk_size bytes_append
set_option maxHeartbeats 2000000 in
theorem rtokens_any (s : ByteArray) (w : World) (hs : s.size ≤ 1000000) :
    Calls Tryz.prog 97 #[.string s] w fun e w' => ∃ v, e = .returned v ∧ OwnAt w v (toks s.data.toList) w' := by
  have hl : s.data.toList.length = s.size := by simp
  have HL := Lib.hid hl; clear hl
  obtain ⟨l, hl⟩ : ∃ l, s.data.toList = l := ⟨_, rfl⟩
  rw [hl] at HL
  have HLs := Lib.hid hl
  rw [hl]
  clear hl
  go_enter Tryz.func97, Tryz.ntmps97
  go_wp2_with fail
  go_loopw [3, 4, 5] (fun v t i wr => ∃ (k : Nat) (C : List (List UInt8)) (p : List UInt8), k ≤ s.size + 1 ∧ i = .int .i64 k ∧ t = strV p ∧ OwnAt w v C wr ∧ p.length ≤ k ∧ C.length ≤ k ∧ (k = s.size + 1 → p = []) ∧ Hid (toks l = C ++ toksA p (l.drop k))) (fun _ _ i _ => s.size + 1 - (intOf i).toNat)
  case atStart => exact ⟨0, [], [], by omega, rfl, rfl, OwnAt.start w, by simp, by simp, by omega, Lib.hid rfl⟩
  case round =>
    obtain ⟨k, C, p, hk, rfl, rfl, ho, hp, hC, hpe, HT⟩ := hrel
    have HO := Lib.hid ho; have HPe := Lib.hid hpe
    clear ho hpe
    by_cases hlt : k < s.size
    · have hq : decide ((k : Int) ≤ s.size) = true := by simp; omega
      have hq2 : decide ((k : Int) < s.size) = true := by simp; omega
      have hdr := drop_one s k hlt
      rw [HLs.out] at hdr
      by_cases hsp : s[k] = 32
      · have e1 : ((s[k].toNat : Int) != 32) = false := by rw [hsp]; rfl
        rw [hsp] at hdr
        have HD := Lib.hid hdr
        clear hsp hdr
        by_cases hp0 : p = []
        · subst hp0
          go_wp2_with fail
          go_roundw
          case rel => exact ⟨k + 1, C, [], by omega, by go_num, rfl, HO.out, by simp, by omega, fun _ => rfl, Lib.hid (by rw [HT.out, HD.out, toksA_sp0])⟩
          case measure => simp [intOf]; try omega
        · have f1 : (p == []) = false := by simpa using hp0
          have f2 : p.isEmpty = false := by simpa using hp0
          have f3 : (p != []) = true := by simpa using hp0
          have HP0 := Lib.hid hp0; clear hp0
          have hone : ∀ u ∈ (#[strV p] : Array Value).toList, u.oneCell' = true := by intro u hu; simp at hu; subst hu; rfl
          go_wp2_with (at_builtin; refine wpList_append_new rfl _ _ 27 rfl w.heap.size 9 1 16 (.string ⟨#[]⟩) Tryz.underlying27 infoS rfl (by decide) (by decide) _ _ _ rfl HO.out.1 #[strV p] 1 rfl rfl hone (by omega) HO.out.2.size ?_; intro v2 w8 ho8 hw8)
          go_roundw
          case rel => exact ⟨k + 1, C ++ [p], [], by omega, by go_num, rfl, ⟨by rw [List.length_append, flat_snoc]; exact ho8, hw8 _ HO.out.2⟩, by simp, by rw [List.length_append, List.length_singleton]; omega, fun _ => rfl, Lib.hid (by rw [HT.out, HD.out, toksA_sp _ _ HP0.out]; simp)⟩
          case measure => simp [intOf]; try omega
      · have e1 : ((s[k].toNat : Int) != 32) = true := by
          simp only [bne_iff_ne, ne_eq]; intro e; apply hsp; rw [← UInt8.toNat_inj]; simp; omega
        have hext := ext_one s k hlt
        have HD := Lib.hid hdr; have HSp := Lib.hid hsp
        clear hsp hdr
        go_wp2_with fail
        go_roundw
        case rel => exact ⟨k + 1, C, p ++ [s[k]], by omega, by go_num, rfl, HO.out, by simp; omega, by omega, fun h => by omega, Lib.hid (by rw [HT.out, HD.out, toksA_ch _ _ _ HSp.out])⟩
        case measure => simp [intOf]; omega
    · by_cases hke : k = s.size
      · subst hke
        have hq : decide ((s.size : Int) ≤ s.size) = true := by simp
        have hq2 : decide ((s.size : Int) < s.size) = false := by simp
        have hdr : l.drop s.size = [] := List.drop_eq_nil_of_le (by rw [HL.out]; exact Nat.le_refl _)
        have hdr2 : l.drop (s.size + 1) = [] := List.drop_eq_nil_of_le (by rw [HL.out]; omega)
        have HD := Lib.hid hdr; have HD2 := Lib.hid hdr2
        clear hdr hdr2
        by_cases hp0 : p = []
        · subst hp0
          go_wp2_with fail
          go_roundw
          case rel => exact ⟨s.size + 1, C, [], by omega, by go_num, rfl, HO.out, by simp, by omega, fun _ => rfl, Lib.hid (by rw [HT.out, HD.out, HD2.out])⟩
          case measure => simp [intOf]; try omega
        · have f1 : (p == []) = false := by simpa using hp0
          have f2 : p.isEmpty = false := by simpa using hp0
          have f3 : (p != []) = true := by simpa using hp0
          have HP0 := Lib.hid hp0; clear hp0
          have hone : ∀ u ∈ (#[strV p] : Array Value).toList, u.oneCell' = true := by intro u hu; simp at hu; subst hu; rfl
          go_wp2_with (at_builtin; refine wpList_append_new rfl _ _ 27 rfl w.heap.size 9 1 16 (.string ⟨#[]⟩) Tryz.underlying27 infoS rfl (by decide) (by decide) _ _ _ rfl HO.out.1 #[strV p] 1 rfl rfl hone (by omega) HO.out.2.size ?_; intro v2 w8 ho8 hw8)
          go_roundw
          case rel => exact ⟨s.size + 1, C ++ [p], [], by omega, by go_num, rfl, ⟨by rw [List.length_append, flat_snoc]; exact ho8, hw8 _ HO.out.2⟩, by simp, by rw [List.length_append, List.length_singleton]; omega, fun _ => rfl, Lib.hid (by rw [HT.out, HD.out, HD2.out, toksA_end _ HP0.out]; simp [toksA])⟩
          case measure => simp [intOf]; try omega
      · have hq : decide ((k : Int) ≤ s.size) = false := by simp; omega
        obtain rfl : k = s.size + 1 := by omega
        obtain rfl : p = [] := HPe.out rfl
        have hdr2 : l.drop (s.size + 1) = [] := List.drop_eq_nil_of_le (by rw [HL.out]; omega)
        have hT := HT.out
        rw [hdr2] at hT
        have hT' : toks l = C := by rw [hT]; simp [toksA]
        rw [← hT'] at HO
        clear hT hT' hdr2 hke
        go_wp2_with fail
        go_ret
        exact ⟨_, rfl, HO.out⟩
end
section
set_option maxRecDepth 100000
open Go.RowKit
/-- does a text end with a space -/
def endsSp : List UInt8 → Bool
  | [] => false
  | [c] => c == 32
  | _ :: d :: r => endsSp (d :: r)
theorem ends_cons (c : UInt8) {R : List UInt8} (h : R ≠ []) : endsSp (c :: R) = endsSp R := by
  cases R with
  | nil => exact absurd rfl h
  | cons d r => rfl
theorem ends_snoc (R : List UInt8) (c : UInt8) : endsSp (R ++ [c]) = (c == 32) := by
  induction R with
  | nil => rfl
  | cons d R ih => rw [List.cons_append, ends_cons _ (by simp), ih]
theorem ends_app (R : List UInt8) {x : List UInt8} (h : x ≠ []) (h2 : ∀ b ∈ x, b ≠ 32) : endsSp (R ++ x) = false := by
  obtain ⟨y, c, rfl⟩ : ∃ y c, x = y ++ [c] := ⟨_, _, (List.dropLast_concat_getLast h).symm⟩
  rw [← List.append_assoc, ends_snoc]
  simpa using h2 c (by simp)
theorem toksA_only (x : List UInt8) (h2 : ∀ b ∈ x, b ≠ 32) : ∀ p, p ++ x ≠ [] → toksA p x = [p ++ x] := by
  induction x with
  | nil => intro p h; rw [List.append_nil] at h; rw [toksA_end _ h, List.append_nil]
  | cons c x ih =>
    intro p _
    rw [toksA_ch _ _ _ (h2 c List.mem_cons_self), ih (fun b hb => h2 b (List.mem_cons_of_mem _ hb)) _ (by simp)]
    simp
theorem join_nil {T : List (List UInt8)} (h : ∀ t ∈ T, t ≠ []) (e : joinL T = []) : T = [] := by
  cases T with
  | nil => rfl
  | cons t T =>
    exfalso
    by_cases hT : T = []
    · subst hT; exact h t List.mem_cons_self (by simpa [joinL] using e)
    · rw [join_cons_ne _ _ hT] at e; simp at e
theorem spaces_end (R : List UInt8) : toksA [] R = [] → endsSp (32 :: R) = true := by
  induction R with
  | nil => intro _; rfl
  | cons c R ih =>
    intro h
    rw [ends_cons _ (by simp)]
    by_cases hc : c = 32
    · subst hc
      rw [toksA_sp0] at h
      exact ih h
    · exfalso
      rw [toksA_ch _ _ _ hc] at h
      have := (toksA_len R ([] ++ [c])).2
      have h3 : ∀ (R : List UInt8) p, p ≠ [] → toksA p R ≠ [] := by
        intro R
        induction R with
        | nil => intro p hp; rw [toksA_end _ hp]; simp
        | cons d R ih2 =>
          intro p hp
          by_cases hd : d = 32
          · subst hd; rw [toksA_sp _ _ hp]; simp
          · rw [toksA_ch _ _ _ hd]; exact ih2 _ (by simp)
      exact h3 R _ (by simp) h
theorem toksA_more (R : List UInt8) {x : List UInt8} (h : x ≠ []) (h2 : ∀ b ∈ x, b ≠ 32) : ∀ p, toksA p (R ++ x) ≠ [] := by
  induction R with
  | nil => intro p; rw [List.nil_append, toksA_only x h2 p (by simp [h])]; simp
  | cons c R ih =>
    intro p
    rw [List.cons_append]
    by_cases hc : c = 32
    · subst hc
      by_cases hp : p = []
      · subst hp; rw [toksA_sp0]; exact ih []
      · rw [toksA_sp _ _ hp]; simp
    · rw [toksA_ch _ _ _ hc]; exact ih _
/-- a text goes on with bytes that are no spaces -/
theorem join_more {x : List UInt8} (h : x ≠ []) (h2 : ∀ b ∈ x, b ≠ 32) (R : List UInt8) : ∀ p, joinL (toksA p (R ++ x)) = joinL (toksA p R) ++ (if endsSp R = true ∧ joinL (toksA p R) ≠ [] then [32] else []) ++ x := by
  induction R with
  | nil =>
    intro p
    rw [List.nil_append, toksA_only x h2 p (by simp [h]), if_neg (by simp [endsSp])]
    by_cases hp : p = []
    · subst hp; simp [toksA, joinL]
    · rw [toksA_end _ hp]; simp [joinL]
  | cons c R ih =>
    intro p
    rw [List.cons_append]
    by_cases hc : c = 32
    · subst hc
      by_cases hp : p = []
      · subst hp
        rw [toksA_sp0, toksA_sp0, ih []]
        by_cases hR : R = []
        · subst hR; simp [endsSp, toksA, joinL]
        · rw [ends_cons _ hR]
      · rw [toksA_sp _ _ hp, toksA_sp _ _ hp, join_cons_ne _ _ (toksA_more R h h2 []), ih []]
        by_cases hT : toksA [] R = []
        · rw [hT]
          have he := spaces_end R hT
          rw [if_neg (by simp [joinL]), if_pos ⟨he, by simpa [joinL] using hp⟩]
          simp [joinL]
        · have hR : R ≠ [] := by intro e; subst e; exact hT rfl
          have hj : joinL (toksA [] R) ≠ [] := fun e => hT (join_nil (toksA_ne R []) e)
          rw [join_cons_ne _ _ hT, ends_cons _ hR]
          by_cases he : endsSp R = true
          · rw [if_pos ⟨he, hj⟩, if_pos ⟨he, by simp⟩]; simp
          · rw [if_neg (fun h => he h.1), if_neg (fun h => he h.1)]; simp
    · rw [toksA_ch _ _ _ hc, toksA_ch _ _ _ hc, ih]
      by_cases hR : R = []
      · subst hR
        rw [if_neg (by simp [endsSp]), if_neg (by simp [endsSp, hc])]
      · rw [ends_cons _ hR]
theorem fold_more {x : List UInt8} (h : x ≠ []) (h2 : ∀ b ∈ x, b ≠ 32) (R : List UInt8) : joinL (toks (R ++ x)) = joinL (toks R) ++ (if endsSp R = true ∧ joinL (toks R) ≠ [] then [32] else []) ++ x := join_more h h2 R []
theorem fold_space (R : List UInt8) : toks (R ++ [32]) = toks R := toksA_last R []
end
section
set_option maxRecDepth 100000
open Go.RowKit
attribute [local go_sem] toList_mk mk_size bytes_append
theorem ok_not_pair (s : ByteArray) (k : Nat) (hk : k < s.size) (h : okByte s[k] = true) : pairAt (s.data.toList.drop k) = false := by
  by_cases h2 : k + 1 < s.size
  · rw [drop_two s k h2]; exact byte_pair h
  · rw [drop_last s k (by omega)]; rfl
theorem pair_facts2 (s : ByteArray) (k : Nat) (h2 : k + 1 < s.size) (h : pairAt (s.data.toList.drop k) = true) : s[k] = 195 ∧ 128 ≤ (s[k + 1].toNat : Int) ∧ (s[k + 1].toNat : Int) ≤ 191 := by
  rw [drop_two s k h2] at h
  have h' : isPair s[k] s[k + 1] = true := h
  rw [pair_iff, decide_eq_true_iff] at h'
  exact ⟨by rw [← UInt8.toNat_inj]; simp; omega, h'.2⟩
set_option maxHeartbeats 2000000 in
theorem rvalid_text (s : ByteArray) (w : World) (hs : s.size ≤ 9223372036854775000) :
    Calls Tryz.prog 251 #[.string s] w fun e w' => e = .returned (.bool (foldV s.data.toList)) ∧ w = w' := by
  have hl : s.data.toList.length = s.size := by simp
  have HL := Lib.hid hl; clear hl
  unfold foldV
  by_cases h64 : s.size ≤ 64
  · have d1 : decide ((64 : Int) < s.size) = false := by simp; omega
    go_enter Tryz.func251, Tryz.ntmps251
    go_wp2_with fail
    clear d1
    go_loop [3] (fun i => ∃ k : Nat, k ≤ s.size ∧ i = .int .i64 k ∧ Hid (validL s.data.toList = validL (s.data.toList.drop k))) (fun i => s.size - (intOf i).toNat)
    case atStart => exact ⟨0, by omega, rfl, Lib.hid rfl⟩
    case round =>
      obtain ⟨k, hk, rfl, HV⟩ := hrel
      by_cases hlt : k < s.size
      · have hq : decide ((k : Int) < s.size) = true := by simp; omega
        have hb := s[k].toNat_lt
        cases hok : okByte s[k]
        · cases hp : pairAt (s.data.toList.drop k)
          · have hv := Lib.hid (valid_one s k hlt hp)
            have HOk := Lib.hid hok
            rw [ok_iff, decide_eq_false_iff_not] at hok
            have hc : (s[k].toNat : Int) < 32 ∨ (32 ≤ (s[k].toNat : Int) ∧ 126 < (s[k].toNat : Int)) := by omega
            clear hok
            have hfalse : validL s.data.toList = false := by rw [HV.out, hv.out, HOk.out]; rfl
            have HF := Lib.hid hfalse
            clear hfalse
            by_cases h195 : s[k] = 195
            · have e1 : ((s[k].toNat : Int) != 195) = false := by rw [h195]; rfl
              by_cases h2 : k + 1 < s.size
              · have e2 : ((k : Int) + 1 == (s.size : Int)) = false := by simp only [beq_eq_false_iff_ne, ne_eq]; omega
                rw [drop_two s k h2] at hp
                have hp' : isPair s[k] s[k + 1] = false := hp
                rw [pair_iff, decide_eq_false_iff_not] at hp'
                have h195' : (s[k].toNat : Int) = 195 := by rw [h195]; rfl
                have hc2 : (s[k + 1].toNat : Int) < 128 ∨ (128 ≤ (s[k + 1].toNat : Int) ∧ 191 < (s[k + 1].toNat : Int)) := by omega
                clear hp hp' h195 h195'
                rcases hc with g1 | ⟨g1, g2⟩ <;> rcases hc2 with g3 | ⟨g3, g4⟩
                all_goals
                  go_wp2_with fail
                  go_ret
                  exact ⟨ret_bool (by rw [HF.out]; try rfl), rfl⟩
              · have e2 : ((k : Int) + 1 == (s.size : Int)) = true := by simp only [beq_iff_eq]; omega
                clear hp h195
                rcases hc with g1 | ⟨g1, g2⟩
                all_goals
                  go_wp2_with fail
                  go_ret
                  exact ⟨ret_bool (by rw [HF.out]; try rfl), rfl⟩
            · have e1 : ((s[k].toNat : Int) != 195) = true := by
                simp only [bne_iff_ne, ne_eq]; intro e; apply h195; rw [← UInt8.toNat_inj]; simp; omega
              clear hp h195
              rcases hc with g1 | ⟨g1, g2⟩
              all_goals
                go_wp2_with fail
                go_ret
                exact ⟨ret_bool (by rw [HF.out]; try rfl), rfl⟩
          · have h2 := pairAt_lt s k hlt hp
            have hv := Lib.hid (valid_two s k hlt hp)
            obtain ⟨g0, g3, g4⟩ := pair_facts2 s k h2 hp
            have e1 : ((s[k].toNat : Int) != 195) = false := by rw [g0]; rfl
            have e2 : ((k : Int) + 1 == (s.size : Int)) = false := by simp only [beq_eq_false_iff_ne, ne_eq]; omega
            have g1 : 32 ≤ (s[k].toNat : Int) := by rw [g0]; decide
            have g2 : 126 < (s[k].toNat : Int) := by rw [g0]; decide
            clear hok hp g0
            go_wp2_with fail
            go_round
            case rel => exact ⟨k + 2, by omega, by go_num, Lib.hid (HV.out.trans hv.out)⟩
            case measure => simp [intOf]; omega
        · have hp := ok_not_pair s k hlt hok
          have hv := Lib.hid (valid_one s k hlt hp)
          have HOk := Lib.hid hok
          rw [ok_iff, decide_eq_true_iff] at hok
          obtain ⟨g1, g2⟩ := hok
          clear hp
          go_wp2_with fail
          go_round
          case rel => exact ⟨k + 1, by omega, by go_num, Lib.hid (HV.out.trans (by rw [hv.out, HOk.out]; rfl))⟩
          case measure => simp [intOf]; omega
      · have hq : decide ((k : Int) < s.size) = false := by simp; omega
        have hd : s.data.toList.drop k = [] := List.drop_eq_nil_of_le (by rw [HL.out]; omega)
        have HD := Lib.hid hd; clear hd
        go_wp2_with fail
        go_ret
        refine ⟨ret_bool ?_, rfl⟩
        rw [HV.out, HD.out]
        first | rfl | (rw [HL.out, decide_eq_true (by omega)]; rfl)
  · have d1 : decide ((64 : Int) < s.size) = true := by simp; omega
    go_enter Tryz.func251, Tryz.ntmps251
    go_wp2_with fail
    go_ret
    exact ⟨ret_bool (by rw [HL.out, decide_eq_false (by omega)]; simp), rfl⟩
end
section
set_option maxRecDepth 100000
open Go.RowKit
attribute [local go_sem] toList_mk mk_size bytes_append
def tabR : List UInt8 := [97, 97, 97, 97, 97, 97, 63, 63, 101, 101, 101, 101, 105, 105, 105, 105, 100, 110, 111, 111, 111, 111, 111, 63, 111, 117, 117, 117, 117, 121, 63, 63]
def replR (n : Nat) : List UInt8 := if n % 32 = 6 then [97, 101] else if n % 32 = 7 then [99] else if n % 32 = 23 then [] else if n % 32 = 30 then [116, 104] else if n = 31 then [115, 115] else if n = 63 then [121] else [tabR.getD (n % 32) 0]
theorem replB_is : ∀ n : Fin 64, replB (UInt8.ofNat (128 + n)) = replR n := by decide
theorem and_31 : ((List.range 64).all fun n => bits .and .u8 ((128 + n : Nat) : Int) 31 == ((n % 32 : Nat) : Int)) = true := by kernel_rfl
theorem tab_ext (r : Nat) (h : r < 32) : (⟨#[97, 97, 97, 97, 97, 97, 63, 63, 101, 101, 101, 101, 105, 105, 105, 105, 100, 110, 111, 111, 111, 111, 111, 63, 111, 117, 117, 117, 117, 121, 63, 63]⟩ : ByteArray).extract r (r + 1) = ⟨[tabR.getD r 0].toArray⟩ := by
  have h' : r < (⟨tabR.toArray⟩ : ByteArray).size := h
  have := ext_one ⟨tabR.toArray⟩ r h'
  refine this.trans ?_
  congr 3
  rw [List.getD, List.getElem?_eq_getElem (show r < tabR.length from h)]; rfl
set_option maxHeartbeats 2000000 in
theorem rrepl_any (x : UInt8) (w : World) (h1 : 128 ≤ (x.toNat : Int)) (h2 : (x.toNat : Int) ≤ 191) :
    Calls Tryz.prog 252 #[.int .u8 x.toNat] w fun e w' => e = .returned (strV (replB x)) ∧ w = w' := by
  obtain ⟨n, hn⟩ : ∃ n : Nat, x.toNat = 128 + n := ⟨x.toNat - 128, by omega⟩
  have hn64 : n < 64 := by omega
  have hx : x = UInt8.ofNat (128 + n) := by rw [← hn]; simp
  have hR : replB x = replR n := by rw [hx]; exact replB_is ⟨n, hn64⟩
  have hand : bits .and .u8 (x.toNat : Int) 31 = ((n % 32 : Nat) : Int) := by
    have := List.all_eq_true.1 and_31 n (List.mem_range.2 hn64)
    rw [hn]; simpa using this
  obtain ⟨r, hr⟩ : ∃ r, n % 32 = r := ⟨_, rfl⟩
  have hr32 : r < 32 := by omega
  have hRr : replR n = if r = 6 then [97, 101] else if r = 7 then [99] else if r = 23 then [] else if r = 30 then [116, 104] else if n = 31 then [115, 115] else if n = 63 then [121] else [tabR.getD r 0] := by unfold replR; rw [hr]
  rw [hR, hRr]
  rw [hr] at hand
  have hn1 : (x.toNat : Int) = 128 + (n : Int) := by omega
  have hb := x.toNat_lt
  have HR := Lib.hid hr; have HN := Lib.hid hn1
  clear hx hR hRr hr hn hn1
  by_cases c6 : r = 6
  · subst c6
    go_enter Tryz.func252, Tryz.ntmps252
    go_wp2_with fail
    go_ret
    exact ⟨rfl, rfl⟩
  · have e6 : ((r : Int) == 6) = false := by simp only [beq_eq_false_iff_ne, ne_eq]; omega
    rw [if_neg c6]
    by_cases c7 : r = 7
    · subst c7
      clear c6
      go_enter Tryz.func252, Tryz.ntmps252
      go_wp2_with fail
      go_ret
      exact ⟨rfl, rfl⟩
    · have e7 : ((r : Int) == 7) = false := by simp only [beq_eq_false_iff_ne, ne_eq]; omega
      rw [if_neg c7]
      by_cases c23 : r = 23
      · subst c23
        clear c6 c7
        go_enter Tryz.func252, Tryz.ntmps252
        go_wp2_with fail
        go_ret
        exact ⟨rfl, rfl⟩
      · have e23 : ((r : Int) == 23) = false := by simp only [beq_eq_false_iff_ne, ne_eq]; omega
        rw [if_neg c23]
        by_cases c30 : r = 30
        · subst c30
          clear c6 c7 c23
          go_enter Tryz.func252, Tryz.ntmps252
          go_wp2_with fail
          go_ret
          exact ⟨rfl, rfl⟩
        · have e30 : ((r : Int) == 30) = false := by simp only [beq_eq_false_iff_ne, ne_eq]; omega
          rw [if_neg c30]
          by_cases n31 : n = 31
          · have e31 : ((x.toNat : Int) == 159) = true := by simp only [beq_iff_eq]; rw [HN.out]; omega
            rw [if_pos n31]
            clear c6 c7 c23 c30 n31
            go_enter Tryz.func252, Tryz.ntmps252
            go_wp2_with fail
            go_ret
            exact ⟨rfl, rfl⟩
          · have e31 : ((x.toNat : Int) == 159) = false := by simp only [beq_eq_false_iff_ne, ne_eq]; rw [HN.out]; omega
            rw [if_neg n31]
            by_cases n63 : n = 63
            · have e63 : ((x.toNat : Int) == 191) = true := by simp only [beq_iff_eq]; rw [HN.out]; omega
              rw [if_pos n63]
              clear c6 c7 c23 c30 n31 n63
              go_enter Tryz.func252, Tryz.ntmps252
              go_wp2_with fail
              go_ret
              exact ⟨rfl, rfl⟩
            · have e63 : ((x.toNat : Int) == 191) = false := by simp only [beq_eq_false_iff_ne, ne_eq]; rw [HN.out]; omega
              rw [if_neg n63]
              have hext := tab_ext r hr32
              clear c6 c7 c23 c30 n31 n63
              go_enter Tryz.func252, Tryz.ntmps252
              go_wp2_with fail
              go_ret
              exact ⟨rfl, rfl⟩
end
section
set_option maxRecDepth 100000
open Go.RowKit
attribute [local go_sem] toList_mk mk_size bytes_append
/-- what one step of Fold does at place k: place k', what is added, what the raw text has there, is a separator due -/
structure FoldSt (s : ByteArray) (k : Nat) (b : Bool) (k' : Nat) (b' : Bool) (x y : List UInt8) : Prop where
  raw : rawL (s.data.toList.drop k) = y ++ rawL (s.data.toList.drop (k' + 1))
  val : validL (s.data.toList.drop (k' + 1)) = true
  lo : k ≤ k'
  hi : k' < s.size
  len : x.length ≤ 2
  way : (x = y ∧ b' = b ∧ ∀ c ∈ x, c ≠ 32) ∨ (x = [] ∧ y = [32] ∧ b' = true)
theorem replB_sp : ∀ n : Fin 64, ((replB (UInt8.ofNat (128 + n))).all fun c => c != 32) = true := by decide
theorem FoldSt.pair {s : ByteArray} {k : Nat} {b : Bool} (h2 : k + 1 < s.size) (hp : pairAt (s.data.toList.drop k) = true) (hv : validL (s.data.toList.drop k) = true) : FoldSt s k b (k + 1) b (replB s[k + 1]) (replB s[k + 1]) := by
  obtain ⟨_, g1, g2⟩ := pair_facts2 s k h2 hp
  refine ⟨raw_two s k h2 hp, by rw [← valid_two s k (by omega) hp]; exact hv, by omega, h2, (replB_ok _).2, .inl ⟨rfl, rfl, fun c hc => ?_⟩⟩
  obtain ⟨n, hn⟩ : ∃ n : Nat, s[k + 1].toNat = 128 + n := ⟨s[k + 1].toNat - 128, by omega⟩
  have hx : s[k + 1] = UInt8.ofNat (128 + n) := by rw [← hn]; simp
  have := replB_sp ⟨n, by omega⟩
  rw [hx] at hc
  simpa using List.all_eq_true.1 this c hc
theorem FoldSt.one {s : ByteArray} {k : Nat} {b : Bool} (hk : k < s.size) (hp : pairAt (s.data.toList.drop k) = false) (hv : validL (s.data.toList.drop k) = true) {x : List UInt8} (hx : plainB s[k] = x) (h32 : ∀ c ∈ x, c ≠ 32) : FoldSt s k b k b x x := by
  have h1 := valid_one s k hk hp
  rw [h1, Bool.and_eq_true] at hv
  exact ⟨by rw [raw_one s k hk hp, hx], hv.2, Nat.le_refl _, hk, by rw [← hx]; have := (plainB_ok s[k]).2; omega, .inl ⟨rfl, rfl, h32⟩⟩
theorem FoldSt.sep {s : ByteArray} {k : Nat} {b : Bool} (hk : k < s.size) (hp : pairAt (s.data.toList.drop k) = false) (hv : validL (s.data.toList.drop k) = true) (hx : plainB s[k] = [32]) : FoldSt s k b k true [] [32] := by
  have h1 := valid_one s k hk hp
  rw [h1, Bool.and_eq_true] at hv
  exact ⟨by rw [raw_one s k hk hp, hx], hv.2, Nat.le_refl _, hk, by simp, .inr ⟨rfl, rfl, rfl⟩⟩
theorem plain_no32 {c : UInt8} (h : isUp c = true ∨ isLow c = true ∨ isDgt c = true) : ∀ d ∈ plainB c, d ≠ 32 := by
  intro d hd
  unfold plainB at hd
  split at hd
  · rename_i hu
    simp at hd; subst hd
    rw [up_iff, decide_eq_true_iff] at hu
    intro e
    have : (c + 32).toNat = 32 := by rw [e]; rfl
    rw [UInt8.toNat_add] at this
    simp at this; omega
  · split at hd
    · rename_i h1 h2
      simp at hd; subst hd
      simp only [Bool.or_eq_true] at h2
      intro e; subst e
      rcases h2 with h2 | h2
      · rw [low_iff] at h2; simp at h2
      · rw [dig_iff] at h2; simp at h2
    · rename_i h1 h2
      exfalso
      rcases h with h | h | h
      · exact h1 h
      · exact h2 (by simp [h])
      · exact h2 (by simp [h])
/-- what the loop of Fold holds -/
structure FoldIn (s : ByteArray) (w : World) (k : Nat) (R : List UInt8) (b : Bool) (wr : World) : Prop where
  raw : R ++ rawL (s.data.toList.drop k) = rawL s.data.toList
  sep : b = endsSp R
  val : validL (s.data.toList.drop k) = true
  bel : Below w.heap.size w wr
theorem FoldIn.len {s : ByteArray} {w : World} {k : Nat} {R : List UInt8} {b : Bool} {wr : World} (h : FoldIn s w k R b wr) (hs : s.size ≤ 64) : (joinL (toks R)).length ≤ 64 := by
  have h1 := congrArg List.length h.raw
  have h2 := (raw_ok s.data.toList).2
  have h3 := (toksA_len R []).1
  have hl : s.data.toList.length = s.size := by simp
  unfold toks
  simp at h1 h3; omega
set_option maxHeartbeats 8000000 in
theorem rfold_yes (s : ByteArray) (w : World) (hv : foldV s.data.toList = true) :
    Calls Tryz.prog 217 #[.string s] w fun e w' => e = .returned (.tuple #[strV (foldL s.data.toList), .int .i64 0]) ∧ Below w.heap.size w w' := by
  have hl : s.data.toList.length = s.size := by simp
  have hv' := hv
  unfold foldV at hv'
  rw [Bool.and_eq_true, decide_eq_true_iff, hl] at hv'
  obtain ⟨hval, hs⟩ := hv'
  have HL := Lib.hid hl; have HV := Lib.hid hv
  have K0 := Lib.hid (show FoldIn s w 0 [] false w from ⟨rfl, rfl, hval, Below.refl _ _⟩)
  clear hl hv hval
  go_enter Tryz.func217, Tryz.ntmps217
  go_wp2_with fail
  refine (rvalid_text s _ (by omega)).mono ?_
  rw [HV.out]
  rintro e w' ⟨rfl, rfl⟩
  go_wp2_with fail
  go_loopw [4, 5, 6] (fun o t i wr => ∃ (k : Nat) (R : List UInt8) (b : Bool), k ≤ s.size ∧ o = strV (joinL (toks R)) ∧ t = .bool b ∧ i = .int .i64 k ∧ FoldIn s w k R b wr) (fun _ _ i _ => s.size - (intOf i).toNat)
  case atStart => exact ⟨0, [], false, by omega, rfl, rfl, rfl, K0.out⟩
  case round =>
    obtain ⟨k, R, b, hk, rfl, rfl, rfl, hin⟩ := hrel
    have hO := hin.len hs
    have HI := Lib.hid hin
    clear hin K0
    obtain ⟨O, hOe⟩ : ∃ O, joinL (toks R) = O := ⟨_, rfl⟩
    have HOe := Lib.hid hOe
    rw [hOe] at hO ⊢
    clear hOe
    by_cases hlt : k < s.size
    · have hq : decide ((k : Int) < s.size) = true := by simp; omega
      have hb := s[k].toNat_lt
      go_upto_block 2 with (fail)
      go_cut [5, 6, 8] (fun s5 s6 s8 wx => ∃ (k' : Nat) (b' : Bool) (x y : List UInt8), s5 = .bool b' ∧ s6 = .int .i64 k' ∧ s8 = strV x ∧ FoldSt s k b k' b' x y ∧ Below w.heap.size w wx)
      case first =>
        cases hp : pairAt (s.data.toList.drop k)
        · have hval := HI.out.val
          have hval2 := hval
          rw [valid_one s k hlt hp, Bool.and_eq_true] at hval2
          have hok := hval2.1
          rw [ok_iff, decide_eq_true_iff] at hok
          have e195 : ((s[k].toNat : Int) == 195) = false := by simp only [beq_eq_false_iff_ne, ne_eq]; omega
          have HP := Lib.hid hp; have HVl := Lib.hid hval
          clear hp hval hval2
          cases hu : isUp s[k]
          · have hu' := hu
            rw [up_iff, decide_eq_false_iff_not] at hu'
            have hcu : (65 ≤ (s[k].toNat : Int) ∧ 90 < (s[k].toNat : Int)) ∨ (s[k].toNat : Int) < 65 := by omega
            cases hlo : isLow s[k]
            · have hlo' := hlo
              rw [low_iff, decide_eq_false_iff_not] at hlo'
              have hcl : (97 ≤ (s[k].toNat : Int) ∧ 122 < (s[k].toNat : Int)) ∨ (s[k].toNat : Int) < 97 := by omega
              cases hdi : isDgt s[k]
              · have hdi' := hdi
                rw [dig_iff, decide_eq_false_iff_not] at hdi'
                have hcd : (48 ≤ (s[k].toNat : Int) ∧ 57 < (s[k].toNat : Int)) ∨ (s[k].toNat : Int) < 48 := by omega
                cases ha : ((s[k].toNat : Int) == 39)
                · have this : (s[k] == 39) = false := by simp at ha ⊢; intro h; rw [h] at ha; simp at ha
                  have hpl : plainB s[k] = [32] := by simp [plainB, hu, hlo, hdi, this]
                  have ha2 : ((s[k].toNat : Int) != 39) = true := by simpa using ha
                  have HS := Lib.hid (FoldSt.sep (b := b) hlt HP.out HVl.out hpl)
                  clear hu hu' hlo hlo' hdi hdi' this hpl hok
                  rcases hcu with ⟨g1, g2⟩ | g1 <;> rcases hcl with ⟨g3, g4⟩ | g3 <;> rcases hcd with ⟨g5, g6⟩ | g5
                  all_goals first
                    | (exfalso; omega)
                    | (go_wp2_with fail; go_meet; exact ⟨k, true, [], [32], rfl, rfl, rfl, HS.out, HI.out.bel⟩)
                · have this : (s[k] == 39) = true := by simp [← UInt8.toNat_inj] at ha ⊢; omega
                  have hpl : plainB s[k] = [] := by simp [plainB, hu, hlo, hdi, this]
                  have ha2 : ((s[k].toNat : Int) != 39) = false := by simpa using ha
                  have HS := Lib.hid (FoldSt.one (b := b) hlt HP.out HVl.out hpl (by simp))
                  clear hu hu' hlo hlo' hdi hdi' this hpl hok
                  rcases hcu with ⟨g1, g2⟩ | g1 <;> rcases hcl with ⟨g3, g4⟩ | g3 <;> rcases hcd with ⟨g5, g6⟩ | g5
                  all_goals first
                    | (exfalso; simp at ha; omega)
                    | (go_wp2_with fail; go_meet; exact ⟨k, b, [], [], rfl, rfl, rfl, HS.out, HI.out.bel⟩)
              · have hdi' := hdi
                rw [dig_iff, decide_eq_true_iff] at hdi'
                obtain ⟨g5, g6⟩ := hdi'
                have hpl : plainB s[k] = [s[k]] := by simp [plainB, hu, hlo, hdi]
                have HS := Lib.hid (FoldSt.one (b := b) hlt HP.out HVl.out hpl (by rw [← hpl]; exact plain_no32 (.inr (.inr hdi))))
                have hcv := one_byte wr s[k]
                have g1 : (s[k].toNat : Int) < 65 := by omega
                have g3 : (s[k].toNat : Int) < 97 := by omega
                clear hu hu' hlo hlo' hdi hpl hok hcu hcl
                go_wp2_with fail
                go_meet
                exact ⟨k, b, [s[k]], [s[k]], rfl, rfl, rfl, HS.out, HI.out.bel.alloc HI.out.bel.size _⟩
            · have hlo' := hlo
              rw [low_iff, decide_eq_true_iff] at hlo'
              obtain ⟨g3, g4⟩ := hlo'
              have hpl : plainB s[k] = [s[k]] := by simp [plainB, hu, hlo]
              have HS := Lib.hid (FoldSt.one (b := b) hlt HP.out HVl.out hpl (by rw [← hpl]; exact plain_no32 (.inr (.inl hlo))))
              have hcv := one_byte wr s[k]
              have g1 : 65 ≤ (s[k].toNat : Int) := by omega
              have g2 : 90 < (s[k].toNat : Int) := by omega
              clear hu hu' hlo hpl hok hcu
              go_wp2_with fail
              go_meet
              exact ⟨k, b, [s[k]], [s[k]], rfl, rfl, rfl, HS.out, HI.out.bel.alloc HI.out.bel.size _⟩
          · have hu' := hu
            rw [up_iff, decide_eq_true_iff] at hu'
            obtain ⟨g1, g2⟩ := hu'
            have hpl : plainB s[k] = [s[k] + 32] := by simp [plainB, hu]
            have HS := Lib.hid (FoldSt.one (b := b) hlt HP.out HVl.out hpl (by rw [← hpl]; exact plain_no32 (.inl hu)))
            have hcv := one_byte wr (s[k] + 32)
            have e2 : ((s[k] + 32).toNat : Int) = (s[k].toNat : Int) + 32 := by rw [UInt8.toNat_add]; simp; omega
            rw [e2] at hcv
            clear hu hpl hok e2
            go_wp2_with fail
            go_meet
            exact ⟨k, b, [s[k] + 32], [s[k] + 32], rfl, rfl, rfl, HS.out, HI.out.bel.alloc HI.out.bel.size _⟩
        · have h2 := pairAt_lt s k hlt hp
          obtain ⟨g0, g1, g2⟩ := pair_facts2 s k h2 hp
          have HS := Lib.hid (FoldSt.pair (b := b) h2 hp HI.out.val)
          have e195 : ((s[k].toNat : Int) == 195) = true := by rw [g0]; rfl
          clear hp g0
          go_wp2_with fail
          refine (rrepl_any s[k + 1] _ g1 g2).mono ?_
          rintro e w' ⟨rfl, rfl⟩
          go_wp2_with fail
          go_meet
          exact ⟨k + 1, b, replB s[k + 1], replB s[k + 1], rfl, by go_num, rfl, HS.out, HI.out.bel⟩
      case rest =>
        obtain ⟨k', b', x, y, rfl, rfl, rfl, hst, hbl⟩ := hcut
        have HS := Lib.hid hst; have HB := Lib.hid hbl
        have hk1 := hst.lo
        have hk2 := hst.hi
        have hxl := hst.len
        clear hst hbl
        by_cases hx : x = []
        · subst hx
          have KN : ∃ R', FoldIn s w (k' + 1) R' b' wc ∧ joinL (toks R') = O := by
            have hi := HI.out
            have hst := HS.out
            rcases hst.way with ⟨h1, h2, _⟩ | ⟨_, h1, h2⟩
            · subst h1; subst h2
              exact ⟨R, ⟨by have := hst.raw; simp only [List.nil_append] at this; rw [← this]; exact hi.raw, hi.sep, hst.val, HB.out⟩, HOe.out⟩
            · subst h1; subst h2
              exact ⟨R ++ [32], ⟨by rw [List.append_assoc, ← hst.raw]; exact hi.raw, (ends_snoc R 32).symm, hst.val, HB.out⟩, by rw [fold_space, HOe.out]⟩
          obtain ⟨R', hR1, hR2⟩ := KN
          have HR1 := Lib.hid hR1; have HR2 := Lib.hid hR2
          clear hR1 hR2
          go_wp2_with fail
          go_roundw
          case rel => exact ⟨k' + 1, R', b', by omega, by rw [HR2.out], rfl, by go_num, HR1.out⟩
          case measure => simp [intOf]; omega
        · have f1 : (x == []) = false := by simpa using hx
          have f2 : x.isEmpty = false := by simpa using hx
          have hst := HS.out
          obtain ⟨h1, h2, h3⟩ := hst.way.resolve_right (fun h => hx h.1)
          subst h1 h2
          have hmore := fold_more hx h3 R
          have hends := ends_app R hx h3
          have KN := Lib.hid (show FoldIn s w (k' + 1) (R ++ x) false wc from ⟨by rw [List.append_assoc, ← hst.raw]; exact HI.out.raw, hends.symm, hst.val, HB.out⟩)
          rw [← HI.out.sep, HOe.out] at hmore
          have HMore := Lib.hid hmore
          clear hst hmore hends h3 hx
          cases b'
          · go_wp2_with fail
            go_roundw
            case rel => exact ⟨k' + 1, R ++ x, false, by omega, by rw [HMore.out]; simp, rfl, by go_num, KN.out⟩
            case measure => simp [intOf]; omega
          · by_cases hO0 : O = []
            · have f3 : (O == []) = true := by rw [hO0]; rfl
              have f4 : (O != []) = false := by rw [hO0]; rfl
              have HO0 := Lib.hid hO0
              clear hO0
              go_wp2_with fail
              go_roundw
              case rel => exact ⟨k' + 1, R ++ x, false, by omega, by rw [HMore.out, HO0.out]; simp, rfl, by go_num, KN.out⟩
              case measure => simp [intOf]; omega
            · have f3 : (O == []) = false := by simpa using hO0
              have f4 : (O != []) = true := by simpa using hO0
              have f5 : O.isEmpty = false := by simpa using hO0
              have HO0 := Lib.hid hO0
              clear hO0
              go_wp2_with fail
              go_roundw
              case rel => exact ⟨k' + 1, R ++ x, false, by omega, by rw [HMore.out, if_pos ⟨rfl, HO0.out⟩]; simp, rfl, by go_num, KN.out⟩
              case measure => simp [intOf]; omega
    · have hq : decide ((k : Int) < s.size) = false := by simp; omega
      have hfin : foldL s.data.toList = O := by
        have hi := HI.out
        have hd : s.data.toList.drop k = [] := List.drop_eq_nil_of_le (by rw [HL.out]; omega)
        have hr := hi.raw
        rw [hd, show rawL [] = [] from rfl, List.append_nil] at hr
        unfold foldL
        rw [← hr]; exact HOe.out
      have HF := Lib.hid hfin
      clear hfin
      go_wp2_with fail
      go_ret2
      exact ⟨by show Ending.returned (.tuple #[strV O, .int .i64 0]) = _; rw [HF.out], HI.out.bel⟩
set_option maxHeartbeats 400000 in
theorem rfold_no (s : ByteArray) (w : World) (hs : s.size ≤ 9223372036854775000) (hv : foldV s.data.toList = false) :
    Calls Tryz.prog 217 #[.string s] w fun e w' => e = .returned (.tuple #[strV [], .int .i64 3]) ∧ Below w.heap.size w w' := by
  have HV := Lib.hid hv; clear hv
  go_enter Tryz.func217, Tryz.ntmps217
  go_wp2_with fail
  refine (rvalid_text s _ hs).mono ?_; rw [HV.out]; rintro e w' ⟨rfl, rfl⟩
  go_wp2_with fail
  go_ret2
  exact ⟨rfl, Below.refl _ _⟩
end
section
set_option maxRecDepth 100000
open Go.RowKit
attribute [local go_sem] toList_mk mk_size bytes_append
set_option maxHeartbeats 400000 in
theorem rtoken_any (l : List UInt8) (w : World) :
    Calls Tryz.prog 162 #[strV l] w fun e w' => e = .returned (.bool (tokenB l)) ∧ w = w' := by
  unfold tokenB
  by_cases h0 : l = []
  · subst h0
    go_enter Tryz.func162, Tryz.ntmps162
    go_wp2
    go_ret
    exact ⟨rfl, rfl⟩
  · have h1 : l.isEmpty = false := by simpa using h0
    have h2 : (l == []) = false := by simpa using h0
    have h2' : (l != []) = true := by simpa using h0
    rw [h1]
    by_cases h3 : l.length ≤ 64
    · have h4 : decide (l.length ≤ 64) = true := by simpa using h3
      have h5 : decide ((l.length : Int) ≤ 64) = true := by simp; omega
      rw [h4]
      clear h0 h4
      go_enter Tryz.func162, Tryz.ntmps162
      go_wp2_with fail
      refine (rletters_any ⟨l.toArray⟩ _ (by rw [mk_size]; omega)).mono ?_
      rw [show (⟨l.toArray⟩ : ByteArray).data.toList = l by simp]
      rintro e w1 ⟨rfl, rfl⟩
      go_wp2_with fail
      go_ret
      exact ⟨rfl, rfl⟩
    · have h4 : decide (l.length ≤ 64) = false := by simpa using h3
      have h5 : decide ((l.length : Int) ≤ 64) = false := by simp; omega
      rw [h4]
      clear h0 h4
      go_enter Tryz.func162, Tryz.ntmps162
      go_wp2_with fail
      go_ret
      exact ⟨rfl, rfl⟩
/-- each entry is greater than the one before -/
def ascAt (L : List (List UInt8)) (j : Nat) : Bool := decide (j = 0) || ltB (L.getD (j - 1) []) (L.getD j [])
def ascL (L : List (List UInt8)) : Bool := (List.range L.length).all (ascAt L)
theorem leq_less (x y : List UInt8) : (Op.bytesLess x y || x == y) = !Op.bytesLess y x := by
  rw [bytesLess_eq, bytesLess_eq, Bool.eq_iff_iff]
  simp only [Bool.or_eq_true, decide_eq_true_eq, beq_iff_eq, Bool.not_eq_true', decide_eq_false_iff_not]
  exact List.le_iff_lt_or_eq.symm
set_option maxHeartbeats 1000000 in
theorem rasc_any (S : Nat → Prop) (v : Value) (L : List (List UInt8)) (w : World) (h : Vec w S 1 encS v L) (hn : L.length ≤ 1000000) :
    Calls Tryz.prog 163 #[v] w fun e w' => e = .returned (.bool (ascL L)) ∧ Below w.heap.size w w' := by
  obtain ⟨a, cap, rfl⟩ := h.slice
  have HV := Lib.hid h; clear h
  go_enter Tryz.func163, Tryz.ntmps163
  go_wp2_with fail
  go_loopw [3] (fun i wr => ∃ m : Nat, i = .int .i64 (m + 1) ∧ m ≤ L.length ∧ Below w.heap.size w wr ∧ Hid (∀ j, j < m + 1 → j < L.length → ascAt L j = true)) (fun i _ => L.length + 1 - (intOf i).toNat)
  case atStart => exact ⟨0, rfl, by omega, Below.refl _ _, Lib.hid fun j hj _ => by (obtain rfl : j = 0 := by omega); rfl⟩
  case round =>
    obtain ⟨m, rfl, hm, hbw, HA⟩ := hrel
    have HW := Lib.hid hbw
    by_cases hlt : m + 1 < L.length
    · have hq : decide ((m : Int) + 1 < L.length) = true := by simp; omega
      obtain ⟨b, off, rfl, _, hb, hc⟩ := vec_cell1 HV.out (by omega)
      have c1 := (hbw.cell (p := ⟨b, off + (m + 1), none⟩) hb).trans (hc (m + 1) hlt)
      have c2 := (hbw.cell (p := ⟨b, off + m, none⟩) hb).trans (hc m (by omega))
      have hat : ascAt L (m + 1) = Op.bytesLess (L.getD m []) (L.getD (m + 1) []) := by simp [ascAt, ltB]
      obtain ⟨x, hx⟩ : ∃ x, L.getD (m + 1) [] = x := ⟨_, rfl⟩
      obtain ⟨y, hy⟩ : ∃ y, L.getD m [] = y := ⟨_, rfl⟩
      rw [hx] at c1 hat
      rw [hy] at c2 hat
      have hi1 : (m : Int) + 1 < (L.length : Int) := by omega
      have hi2 : (m : Int) < (L.length : Int) := by omega
      have hi3 : (0 : Int) ≤ (m : Int) + 1 := by omega
      have hleq := leq_less x y
      clear hc hx hy hbw
      cases hl : Op.bytesLess y x
      · rw [hl] at hat hleq
        have HAt := Lib.hid hat; clear hat hl
        have hleq' : (Op.bytesLess x y || x == y) = true := hleq
        clear hleq
        go_wp2_with fail
        go_quiet (fail)
        go_wp2_with fail
        go_ret
        exact ⟨ret_bool (by rw [ascL, all_false hlt HAt.out]), below_drewN HW.out _⟩
      · rw [hl] at hat hleq
        have HAt := Lib.hid hat; clear hat hl
        have hleq' : (Op.bytesLess x y || x == y) = false := hleq
        have g1 : Op.bytesLess x y = false := (Bool.or_eq_false_iff.1 hleq').1
        have g2 : (x == y) = false := (Bool.or_eq_false_iff.1 hleq').2
        clear hleq hleq'
        go_wp2_with fail
        go_quiet (fail)
        go_wp2_with fail
        go_roundw
        case rel => exact ⟨m + 1, by go_num, by omega, below_drewN HW.out _, Lib.hid fun j hj hjl => by
          by_cases e : j = m + 1
          · subst e; exact HAt.out
          · exact HA.out j (by omega) hjl⟩
        case measure => simp [intOf]; omega
    · have hq : decide ((m : Int) + 1 < L.length) = false := by simp; omega
      go_wp2_with fail
      go_ret
      exact ⟨ret_bool (by rw [ascL, all_true fun j hj => HA.out j (by omega) hj]), HW.out⟩
set_option maxHeartbeats 1000000 in
theorem rhas_any (S : Nat → Prop) (v : Value) (L : List (List UInt8)) (x : List UInt8) (w : World) (h : Vec w S 1 encS v L) (hn : L.length ≤ 1000000) :
    Calls Tryz.prog 165 #[v, strV x] w fun e w' => e = .returned (.bool (hasB L x)) ∧ w = w' := by
  obtain ⟨a, cap, rfl⟩ := h.slice
  have HV := Lib.hid h; clear h
  go_enter Tryz.func165, Tryz.ntmps165
  go_wp2_with fail
  go_loop [5] (fun i => ∃ k : Nat, k ≤ L.length ∧ i = .int .i64 k ∧ Hid (∀ j, j < k → L.getD j [] ≠ x)) (fun i => L.length - (intOf i).toNat)
  case atStart => exact ⟨0, by omega, rfl, Lib.hid fun j hj => by omega⟩
  case round =>
    obtain ⟨k, hk, rfl, HA⟩ := hrel
    by_cases hlt : k < L.length
    · have hq : decide ((k : Int) < L.length) = true := by simp; omega
      obtain ⟨b, off, rfl, _, hb, hc⟩ := vec_cell1 HV.out (by omega)
      have c1 := hc k hlt
      have hm : L.getD k [] ∈ L := by rw [List.getD, List.getElem?_eq_getElem hlt]; exact List.getElem_mem hlt
      obtain ⟨y, hy⟩ : ∃ y, L.getD k [] = y := ⟨_, rfl⟩
      rw [hy] at c1 hm
      have HY := Lib.hid hy; have HM := Lib.hid hm
      clear hc hy hm
      by_cases he : y = x
      · subst he
        go_wp2_with fail
        go_ret
        exact ⟨ret_bool (by unfold hasB; rw [List.any_eq_true.2 ⟨y, HM.out, by simp⟩]), rfl⟩
      · have e1 : (y == x) = false := by simpa using he
        have HE := Lib.hid he; clear he
        go_wp2_with fail
        go_round
        case rel => exact ⟨k + 1, by omega, by go_num, Lib.hid fun j hj => by
          by_cases e : j = k
          · subst e; rw [HY.out]; exact HE.out
          · exact HA.out j (by omega)⟩
        case measure => simp [intOf]; omega
    · have hq : decide ((k : Int) < L.length) = false := by simp; omega
      go_wp2_with fail
      go_ret
      refine ⟨ret_bool ?_, rfl⟩
      symm
      unfold hasB
      rw [List.any_eq_false]
      intro y hy
      obtain ⟨j, hj, rfl⟩ := List.getElem_of_mem hy
      have := HA.out j (by omega)
      rw [List.getD, List.getElem?_eq_getElem hj] at this
      simpa using this
end
section
set_option maxRecDepth 100000
open Go.RowKit
attribute [local go_sem] toList_mk mk_size bytes_append
theorem canon_drop {L : List P2} {s : List UInt8} (k : Nat) (hk : k < L.length) : canonL (L.drop k) s = if (L.getD k default).1 = s then (L.getD k default).2 else canonL (L.drop (k + 1)) s := by
  rw [List.drop_eq_getElem_cons hk, List.getD, List.getElem?_eq_getElem hk]
  simp only [Option.getD_some, canonL, beq_iff_eq]
set_option maxHeartbeats 1000000 in
theorem rreplace_any (S : Nat → Prop) (v : Value) (L : List P2) (x : List UInt8) (w : World) (h : Vec w S 2 encP v L) (hn : L.length ≤ 1000000) :
    Calls Tryz.prog 221 #[v, strV x] w fun e w' => e = .returned (strV (canonL L x)) ∧ w = w' := by
  obtain ⟨a, cap, rfl⟩ := h.slice
  have HV := Lib.hid h; clear h
  go_enter Tryz.func221, Tryz.ntmps221
  go_wp2_with fail
  go_loop [5] (fun i => ∃ k : Nat, k ≤ L.length ∧ i = .int .i64 k ∧ Hid (canonL L x = canonL (L.drop k) x)) (fun i => L.length - (intOf i).toNat)
  case atStart => exact ⟨0, by omega, rfl, Lib.hid rfl⟩
  case round =>
    obtain ⟨k, hk, rfl, HA⟩ := hrel
    by_cases hlt : k < L.length
    · have hq : decide ((k : Int) < L.length) = true := by simp; omega
      obtain ⟨b, off, rfl, _, hb, hc⟩ := vec_cell2 HV.out (by omega)
      have c0 := hc k hlt 0 _ rfl
      have c1 := hc k hlt 1 _ rfl
      rw [Nat.add_zero] at c0
      have hd := canon_drop (s := x) k hlt
      obtain ⟨⟨y, z⟩, hy⟩ : ∃ y, L.getD k default = y := ⟨_, rfl⟩
      rw [hy] at c0 c1 hd
      dsimp only at c0 c1 hd
      have HD := Lib.hid hd
      clear hc hy hd
      by_cases he : y = x
      · subst he
        go_wp2_with fail
        go_ret
        exact ⟨by show Ending.returned (strV z) = .returned (strV (canonL L y)); rw [HA.out, HD.out]; simp, rfl⟩
      · have e1 : (y == x) = false := by simpa using he
        have HE := Lib.hid he; clear he
        go_wp2_with fail
        go_round
        case rel => exact ⟨k + 1, by omega, by go_num, Lib.hid (by rw [HA.out, HD.out, if_neg HE.out])⟩
        case measure => simp [intOf]; omega
    · have hq : decide ((k : Int) < L.length) = false := by simp; omega
      have hfin : canonL L x = x := by rw [HA.out, List.drop_eq_nil_of_le (by omega)]; rfl
      have HF := Lib.hid hfin; clear hfin
      go_wp2_with fail
      go_ret
      exact ⟨by show Ending.returned (strV x) = .returned (strV (canonL L x)); rw [HF.out], rfl⟩
set_option maxHeartbeats 400000 in
theorem rcanonical_any (S : Nat → Prop) (vt vn vs : Value) (L : List P2) (x : List UInt8) (w : World) (h : Vec w S 2 encP vn L) (hn : L.length ≤ 1000000) :
    Calls Tryz.prog 219 #[.agg #[vt, vn, vs], strV x] w fun e w' => e = .returned (strV (canonL L x)) ∧ Below w.heap.size w w' := by
  have HV := Lib.hid h; clear h
  go_enter Tryz.func219, Tryz.ntmps219
  go_wp2_with fail
  refine (rreplace_any S vn L x _ (HV.out.below ((Below.refl _ _).alloc (Nat.le_refl _) _)) hn).mono ?_
  rintro e w' ⟨rfl, rfl⟩
  go_wp2_with fail
  go_ret
  exact ⟨rfl, (Below.refl _ _).alloc (Nat.le_refl _) _⟩
set_option maxHeartbeats 400000 in
theorem rdropped_any (S : Nat → Prop) (vt vn vs : Value) (L : List (List UInt8)) (x : List UInt8) (w : World) (h : Vec w S 1 encS vt L) (hn : L.length ≤ 1000000) :
    Calls Tryz.prog 218 #[.agg #[vt, vn, vs], strV x] w fun e w' => e = .returned (.bool (hasB L x)) ∧ Below w.heap.size w w' := by
  have HV := Lib.hid h; clear h
  go_enter Tryz.func218, Tryz.ntmps218
  go_wp2_with fail
  refine (rhas_any S vt L x _ (HV.out.below ((Below.refl _ _).alloc (Nat.le_refl _) _)) hn).mono ?_
  rintro e w' ⟨rfl, rfl⟩
  go_wp2_with fail
  go_ret
  exact ⟨rfl, (Below.refl _ _).alloc (Nat.le_refl _) _⟩
theorem find_has_from (s : List UInt8) : ∀ (L : List P2) (i : Nat), decide (Lib.idxByFrom (fun _ (y : P2) => y.1 == s) default L i < 0) = !hasB (L.map (·.1)) s := by
  intro L
  induction L with
  | nil => intro i; simp [Lib.idxByFrom, hasB]
  | cons p L ih =>
    intro i
    have e : hasB ((p :: L).map (·.1)) s = (p.1 == s || hasB (L.map (·.1)) s) := by simp [hasB]
    rw [e]
    cases h : p.1 == s
    · simp only [Lib.idxByFrom, h, Bool.false_eq_true, if_false, Bool.false_or]
      exact ih (i + 1)
    · simp only [Lib.idxByFrom, h, if_true, Bool.true_or, Bool.not_true]
      simp
theorem find_has (L : List P2) (s : List UInt8) : decide (findI L s < 0) = !hasB (L.map (·.1)) s := find_has_from s L 0
theorem map_getD (L : List P2) (j : Nat) (h : j < L.length) : (L.map (·.1)).getD j [] = (L.getD j default).1 := by
  rw [List.getD, List.getD, List.getElem?_map, List.getElem?_eq_getElem h]; rfl
theorem pairAt_is (L : List P2) (j : Nat) (h : j < L.length) : pairAtB L j = (tokenB (L.getD j default).1 && tokenB (L.getD j default).2 && ascAt (L.map (·.1)) j && !hasB (L.map (·.1)) (L.getD j default).2) := by
  unfold pairAtB ascAt
  rw [find_has, map_getD L j h]
  by_cases h0 : j = 0
  · subst h0; simp
  · rw [map_getD L (j - 1) (by omega)]
theorem pairs_no_tok {L : List P2} {j : Nat} (h : j < L.length) (ht : (tokenB (L.getD j default).1 && tokenB (L.getD j default).2) = false) : pairsB L = false := by
  unfold pairsB
  exact all_false h (by rw [pairAt_is L j h, ht]; simp)
theorem pairs_no_has {L : List P2} {j : Nat} (h : j < L.length) (ht : hasB (L.map (·.1)) (L.getD j default).2 = true) : pairsB L = false := by
  unfold pairsB
  exact all_false h (by rw [pairAt_is L j h, ht]; simp)
theorem pairs_asc {L : List P2} (h1 : ∀ j, j < L.length → (tokenB (L.getD j default).1 && tokenB (L.getD j default).2) = true) (h2 : ∀ j, j < L.length → hasB (L.map (·.1)) (L.getD j default).2 = false) : pairsB L = ascL (L.map (·.1)) := by
  unfold pairsB ascL
  rw [List.length_map]
  refine Bool.eq_iff_iff.2 ⟨fun h => ?_, fun h => ?_⟩
  · refine List.all_eq_true.2 fun j hj => ?_
    have := List.all_eq_true.1 h j hj
    rw [pairAt_is L j (List.mem_range.1 hj)] at this
    simp only [Bool.and_eq_true] at this
    exact this.1.2
  · refine List.all_eq_true.2 fun j hj => ?_
    have := List.all_eq_true.1 h j hj
    have hj' := List.mem_range.1 hj
    rw [pairAt_is L j hj', h1 j hj', h2 j hj', this]; rfl
theorem flat_fst_snoc (L : List P2) (k : Nat) (h : k < L.length) : (L.take (k + 1)).map (·.1) = (L.take k).map (·.1) ++ [(L.getD k default).1] := by
  rw [take_snocA L k h, List.map_append]; rfl
set_option maxHeartbeats 2000000 in
theorem rpairs_any (S : Nat → Prop) (v : Value) (L : List P2) (w : World) (h : Vec w S 2 encP v L) (hn : L.length ≤ 1000000) :
    Calls Tryz.prog 164 #[v] w fun e w' => e = .returned (.bool (pairsB L)) ∧ Below w.heap.size w w' := by
  obtain ⟨a, cap, rfl⟩ := h.slice
  have HV := Lib.hid h; clear h
  go_enter Tryz.func164, Tryz.ntmps164
  go_wp2_with fail
  go_loopw [3, 4] (fun f i wr => ∃ k : Nat, k ≤ L.length ∧ i = .int .i64 k ∧ OwnAt w f ((L.take k).map (·.1)) wr ∧ Hid (∀ j, j < k → (tokenB (L.getD j default).1 && tokenB (L.getD j default).2) = true)) (fun _ i _ => L.length - (intOf i).toNat)
  case atStart => exact ⟨0, by omega, rfl, OwnAt.start w, Lib.hid fun j hj => by omega⟩
  case round =>
    obtain ⟨k, hk, rfl, ho, HA⟩ := hrel
    have HO := Lib.hid ho; clear ho
    by_cases hlt : k < L.length
    · have hq : decide ((k : Int) < L.length) = true := by simp; omega
      obtain ⟨b, off, rfl, _, hb, hc⟩ := vec_cell2 HV.out (by omega)
      have k0 := hc k hlt 0 _ rfl
      rw [Nat.add_zero] at k0
      have c0 := (HO.out.2.cell (p := ⟨b, off + k * 2, none⟩) hb).trans k0
      clear k0
      have c1 := (HO.out.2.cell (p := ⟨b, off + k * 2 + 1, none⟩) hb).trans (hc k hlt 1 _ rfl)
      have hfs := flat_fst_snoc L k hlt
      have hno := pairs_no_tok (L := L) (j := k) hlt
      obtain ⟨⟨y, z⟩, hy⟩ : ∃ y, L.getD k default = y := ⟨_, rfl⟩
      rw [hy] at c0 c1 hfs hno
      dsimp only at c0 c1 hfs hno
      have HFs := Lib.hid hfs; have HNo := Lib.hid hno; have HY := Lib.hid hy
      clear hc hy hfs hno
      go_wp2_with fail
      refine (rtoken_any y _).mono ?_
      cases ht : tokenB y
      · rintro e w' ⟨rfl, rfl⟩
        have HT := Lib.hid ht; clear ht
        go_wp2_with fail
        go_ret
        exact ⟨ret_bool (by rw [HNo.out (by rw [HT.out]; rfl)]), HO.out.2⟩
      · rintro e w' ⟨rfl, rfl⟩
        have HT := Lib.hid ht; clear ht
        go_wp2_with fail
        refine (rtoken_any z _).mono ?_
        cases ht2 : tokenB z
        · rintro e w' ⟨rfl, rfl⟩
          have HT2 := Lib.hid ht2; clear ht2
          go_wp2_with fail
          go_ret
          exact ⟨ret_bool (by rw [HNo.out (by rw [HT.out, HT2.out]; rfl)]), HO.out.2⟩
        · rintro e w' ⟨rfl, rfl⟩
          have HT2 := Lib.hid ht2; clear ht2
          have hlen : ((L.take k).map (·.1)).length < 1099511627776 := by have := List.length_take_le k L; rw [List.length_map]; omega
          have hone : ∀ u ∈ (#[strV y] : Array Value).toList, u.oneCell' = true := by intro u hu; simp at hu; subst hu; rfl
          go_wp2_with (at_builtin; refine wpList_append_new rfl _ _ 27 rfl w.heap.size 9 1 16 (.string ⟨#[]⟩) Tryz.underlying27 infoS rfl (by decide) (by decide) _ _ _ rfl HO.out.1 #[strV y] 1 rfl rfl hone hlen HO.out.2.size ?_; intro v2 w8 ho8 hw8)
          go_roundw
          case rel => exact ⟨k + 1, by omega, by go_num, ⟨by rw [HFs.out, List.length_append, flat_snoc]; exact ho8, hw8 _ HO.out.2⟩, Lib.hid fun j hj => by
            by_cases e : j = k
            · subst e; rw [HY.out, HT.out, HT2.out]; rfl
            · exact HA.out j (by omega)⟩
          case measure => simp [intOf]; omega
    · have hq : decide ((k : Int) < L.length) = false := by simp; omega
      obtain rfl : k = L.length := by omega
      rw [List.take_of_length_le (Nat.le_refl _)] at HO
      have HF := Lib.hid (Vec.owns (S := Any1) (k := 1) (enc := encS) (fun _ => rfl) HO.out.1 (fun _ _ _ => trivial))
      have hml : (L.map (·.1)).length ≤ 1000000 := by rw [List.length_map]; exact hn
      obtain ⟨wo, rfl⟩ : ∃ wo : World, wo = wr := ⟨_, rfl⟩
      go_wp2_with fail
      go_loopw [5] (fun i wr => ∃ k : Nat, k ≤ L.length ∧ i = .int .i64 k ∧ wr = wo ∧ Hid (∀ j, j < k → hasB (L.map (·.1)) (L.getD j default).2 = false)) (fun i _ => L.length - (intOf i).toNat)
      case atStart => exact ⟨0, by omega, rfl, rfl, Lib.hid fun j hj => by omega⟩
      case round =>
        obtain ⟨k, hk2, rfl, rfl, HB⟩ := hrel
        by_cases hlt2 : k < L.length
        · have hq2 : decide ((k : Int) < L.length) = true := by simp; omega
          obtain ⟨b, off, rfl, _, hb, hc⟩ := vec_cell2 HV.out (by omega)
          have c1 := (HO.out.2.cell (p := ⟨b, off + k * 2 + 1, none⟩) hb).trans (hc k hlt2 1 _ rfl)
          have hno := pairs_no_has (L := L) (j := k) hlt2
          obtain ⟨⟨y, z⟩, hy⟩ : ∃ y, L.getD k default = y := ⟨_, rfl⟩
          rw [hy] at c1 hno
          dsimp only at c1 hno
          have HNo := Lib.hid hno; have HY := Lib.hid hy
          clear hc hy hno
          go_wp2_with fail
          refine (rhas_any Any1 _ (L.map (·.1)) z _ HF.out hml).mono ?_
          cases ht : hasB (L.map (·.1)) z
          · rintro e w' ⟨rfl, rfl⟩
            have HT := Lib.hid ht; clear ht
            go_wp2_with fail
            go_roundw
            case rel => exact ⟨k + 1, by omega, by go_num, by trivial, Lib.hid fun j hj => by
              by_cases e : j = k
              · subst e; rw [HY.out]; exact HT.out
              · exact HB.out j (by omega)⟩
            case measure => simp [intOf]; omega
          · rintro e w' ⟨rfl, rfl⟩
            have HT := Lib.hid ht; clear ht
            go_wp2_with fail
            go_ret
            exact ⟨ret_bool (by rw [HNo.out HT.out]), HO.out.2⟩
        · have hq2 : decide ((k : Int) < L.length) = false := by simp; omega
          have hfin := pairs_asc (L := L) HA.out (fun j hj => HB.out j (by omega))
          have HFin := Lib.hid hfin; clear hfin
          go_wp2_with fail
          refine (rasc_any Any1 _ (L.map (·.1)) _ HF.out hml).mono ?_
          rintro e w2 ⟨rfl, hb2⟩
          have HB2 := Lib.hid (HO.out.2.trans (hb2.mono HO.out.2.size))
          clear hb2
          go_wp2_with fail
          go_ret
          exact ⟨ret_bool (by rw [HFin.out]), HB2.out⟩
end
end Go.Proofs.YtaoebplnbcimlaaGreatDoor
