/- Parts of one proof: BlkE, BlkF, EncD, RecA, BlkG, BlkH, BlkI, EncF, EncE, EncG, EncLaw, BlkJ, BlkK, BlkL, RecAll, BlkN, BlkO, KeyPlain, MakeB, MakeZZ, Drawn. -/
import Derived.Test.YtdckkggmmakfiaaGreatDoorPartBlockingAgree5
import Derived.Deep.AppendLies
import Derived.Deep.RegionLaw
section
/- blocking, the program's: Check, check of valid block keys. -/
set_option linter.unusedSimpArgs false
set_option linter.unusedVariables false
set_option maxRecDepth 100000
namespace Go.Proofs.YtdckkggmmakfiaaGreatDoor
open Go.RowKit
structure SV where
  a : Option Addr
  n : Nat
  c : Nat
abbrev encSV (x : SV) : List Value := [.slice x.a x.n x.c]
def KeysAll (w : World) (S : Nat → Prop) (C : List SV) (Ks : List (List (Int × Int))) : Prop := C.length = Ks.length ∧ ∀ n (h1 : n < C.length) (h2 : n < Ks.length), Vec w S 2 encC (.slice C[n].a C[n].n C[n].c) Ks[n]
/-- block keys: each one cell, the slice of its components -/
def KeysVec (w : World) (S : Nat → Prop) (v : Value) (Ks : List (List (Int × Int))) : Prop := ∃ C, Vec w S 1 encSV v C ∧ KeysAll w S C Ks
theorem KeysVec.slice {w : World} {S : Nat → Prop} {v : Value} {L : List (List (Int × Int))} (h : KeysVec w S v L) : ∃ a cap, v = .slice a L.length cap := by
  obtain ⟨C, hC, hA⟩ := h
  obtain ⟨a, cap, rfl⟩ := hC.slice
  exact ⟨a, cap, by rw [hA.1]⟩
theorem KeysVec.move {w w' : World} {S T : Nat → Prop} {v : Value} {L : List (List (Int × Int))} (h : KeysVec w S v L) (hz : w.heap.size ≤ w'.heap.size) (hS : ∀ x, x < w.heap.size → S x → w'.heap[x]? = w.heap[x]? ∧ T x) : KeysVec w' T v L := by
  obtain ⟨C, hC, hA⟩ := h
  exact ⟨C, hC.move hz hS, hA.1, fun n h1 h2 => (hA.2 n h1 h2).move hz hS⟩
theorem KeysVec.below {w w' : World} {S : Nat → Prop} {v : Value} {L : List (List (Int × Int))} (h : KeysVec w S v L) (hb : Below w.heap.size w w') : KeysVec w' S v L :=
  h.move hb.size fun x hx hs => ⟨hb.block x hx, hs⟩
theorem KeysVec.at {w : World} {S : Nat → Prop} {a : Option Addr} {n cap : Nat} {L : List (List (Int × Int))} (h : KeysVec w S (.slice a n cap) L) (j : Nat) (hj : j < L.length) :
    ∃ (b off : Nat) (c : SV), a = some ⟨b, off, none⟩ ∧ b < w.heap.size ∧ w.cell? ⟨b, off + j, none⟩ = some (.slice c.a c.n c.c) ∧ Vec w S 2 encC (.slice c.a c.n c.c) (L.getD j []) := by
  obtain ⟨C, hC, hA⟩ := h
  have hj2 : j < C.length := by rw [hA.1]; exact hj
  obtain ⟨b, off, e, hb, hc⟩ := hC.get j hj2
  refine ⟨b, off, C[j], e, hb, by have := hc 0 _ rfl; simpa using this, ?_⟩
  rw [getD_at _ _ hj]
  exact hA.2 j hj2 hj
structure KeysOk (F : List F2) (Ks : List (List (Int × Int))) : Prop where
  len : Ks.length ≤ 8
  key : ∀ K ∈ Ks, KeyOk F K
set_option maxHeartbeats 4000000 in
theorem bchk_yes (S T : Nat → Prop) (vf vt vn vs kv : Value) (s : SchemaL) (Ks : List (List (Int × Int))) (w : World) (h : SchemaAt w S vf vt vn vs s) (hk : KeysVec w T kv Ks) (hc : checkS s = 0) (hn : s.fields.length ≤ 1000000) (ok : KeysOk s.fields Ks) :
    Calls Tryz.prog 22 #[.agg #[vf, vt, vn, vs], kv] w fun e w' => e = .returned (.int .i64 0) ∧ Below w.heap.size w w' := by
  obtain ⟨ak, ck, rfl⟩ := hk.slice
  have HS := Lib.hid h; have HK := Lib.hid hk; have HOk := Lib.hid ok; have HC := Lib.hid hc
  have l8 := ok.len
  have d2 : decide ((8 : Int) < (Ks.length : Int)) = false := by simp; omega
  have dz : ((0 : Int) != 0) = false := rfl
  clear h hk ok hc
  go_enter Tryz.func22, Tryz.ntmps22
  go_wp2_with fail
  refine wp_calls_world (fun W hW => ?_)
  have hb0 : Below w.heap.size w W := by rw [hW]; exact (Below.refl w.heap.size w).alloc (Nat.le_refl _) _
  have hs0 : W.heap[w.heap.size]? = some (.cells #[vf, vt, vn, vs] 33 (0, 0)) := by rw [hW]; exact blk_new rfl
  clear hW
  refine (scheck_any S _ _ _ _ s W (HS.out.below hb0)).mono ?_
  rw [HC.out]
  rintro e w1 ⟨rfl, hb⟩
  have hs1 := blk_below hb (lt_of_blk hs0) hs0
  have HB1 := Lib.hid (hb0.trans (hb.mono hb0.size)); have HS1 := Lib.hid hs1
  clear hb hb0 hs0 hs1
  go_wp2_with fail
  go_loopw [19] (fun i wr => ∃ j : Nat, i = .int .i64 j ∧ j ≤ Ks.length ∧ Below w1.heap.size w1 wr) (fun i _ => Ks.length - (intOf i).toNat)
  case atStart => exact ⟨0, rfl, by omega, Below.refl _ _⟩
  case round =>
    obtain ⟨j, rfl, hj, hbw⟩ := hrel
    have HBW := Lib.hid hbw
    by_cases hlt : j < Ks.length
    · have hq : decide ((j : Int) < (Ks.length : Int)) = true := by simp; omega
      have hji : (j : Int) < (Ks.length : Int) := by omega
      have hbw0 := HB1.out.trans (hbw.mono HB1.out.size)
      obtain ⟨b, off, c, rfl, lb, c0, hv⟩ := (HK.out.below hbw0).at j hlt
      have hok := HOk.out.key (Ks.getD j []) (by rw [getD_at _ _ hlt]; exact List.getElem_mem hlt)
      obtain ⟨ca, cn, cc⟩ := c
      dsimp only at c0 hv
      have hs1 := blk_below hbw (lt_of_blk HS1.out) HS1.out
      obtain ⟨s0, s1, s2, s3⟩ := cellsS hs1
      have ls := lt_of_blk hs1
      have HV := Lib.hid hv; have HOk1 := Lib.hid hok
      clear hbw hs1 hv hok
      go_wp2_with fail
      refine wp_calls_world (fun Wc hWc => ?_)
      have hbc : Below wr.heap.size wr Wc := by rw [hWc]; exact (Below.refl wr.heap.size wr).alloc (Nat.le_refl _) _
      clear hWc
      refine (bkey_yes S T _ _ _ _ _ s.fields (Ks.getD j []) Wc ((HS.out.below (hbw0.trans (hbc.mono hbw0.size))).1) (HV.out.below hbc) hn HOk1.out).mono ?_
      rintro e w2 ⟨rfl, hb⟩
      have HB2 := Lib.hid (HBW.out.trans ((hbc.trans (hb.mono hbc.size)).mono HBW.out.size))
      clear hb hbc
      go_wp2_with fail
      go_roundw
      case rel => exact ⟨j + 1, by go_num, by omega, HB2.out⟩
      case measure => simp [intOf]; omega
    · have hq : decide ((j : Int) < (Ks.length : Int)) = false := by simp; omega
      go_wp2_with fail
      go_ret
      exact ⟨rfl, HB1.out.trans (hbw.mono HB1.out.size)⟩
end Go.Proofs.YtdckkggmmakfiaaGreatDoor
end
section
/- blocking, the program's: hash. -/
set_option linter.unusedSimpArgs false
set_option linter.unusedVariables false
set_option maxRecDepth 100000
namespace Go.Proofs.YtdckkggmmakfiaaGreatDoor
open Go.RowKit
attribute [local go_sem] toList_mk mk_size str_append
def compN (vals : List (List UInt8)) (c : Int × Int) : List UInt8 := partN c.2 (vals.getD c.1.toNat [])
def blkLabel (t : List UInt8) : List UInt8 := [98, 108, 111, 99, 107] ++ t
def bhashN (k : Int × Int) (i : Nat) (L : List (List UInt8)) : Int × Bool := if hasB L [] = true then (0, false) else (partsP (deriveP k.1 k.2 (blkLabel (Lib.decDigits i))).1 (deriveP k.1 k.2 (blkLabel (Lib.decDigits i))).2 L, true)
structure CompsOk (K : List (Int × Int)) (vals : List (List UInt8)) : Prop where
  len : K.length ≤ 3
  fit : ∀ c ∈ K, 0 ≤ c.1 ∧ c.1 < vals.length ∧ (1 ≤ c.2 ∧ c.2 ≤ 5) ∧ (vals.getD c.1.toNat []).length ≤ 1000 ∧ (c.2 = 2 ∨ c.2 = 5 → ascii (vals.getD c.1.toNat []))
  short : ∀ c ∈ K, (compN vals c).length ≤ 60000
theorem oneB6 : ∀ x : List UInt8, ∀ u ∈ encS x, u.oneCell' = true := by intro x u hu; simp [encS] at hu; subst hu; rfl
set_option maxHeartbeats 8000000 in
theorem bhash_yes (T : Nat → Prop) (k : Int × Int) (kv : Value) (K : List (Int × Int)) (i : Nat) (id ver : Int) (sv : Value) (vals : List (List UInt8)) (w : World) (hk : Vec w T 2 encC kv K) (hv : Vec w Any1 1 encS sv vals) (hn : vals.length ≤ 1000000) (ok : CompsOk K vals) (hi : i < 100) :
    Calls Tryz.prog 33 #[.agg #[.int .u64 k.1, .int .u64 k.2], .agg #[kv], .int .i64 i, .agg #[.int .i64 id, .int .i64 ver, sv]] w fun e w' => e = .returned (.tuple #[.int .u64 (bhashN k i (K.map (compN vals))).1, .bool (bhashN k i (K.map (compN vals))).2]) ∧ Below w.heap.size w w' := by
  obtain ⟨ak, ck, rfl⟩ := hk.slice
  obtain ⟨av, cv, rfl⟩ := hv.slice
  obtain ⟨L, hL⟩ : ∃ L, K.map (compN vals) = L := ⟨_, rfl⟩
  have hLl : L.length = K.length := by rw [← hL]; simp
  have hLs : ∀ x ∈ L, x.length ≤ 60000 := by rw [← hL]; intro x hx; obtain ⟨c, hc, rfl⟩ := List.mem_map.1 hx; exact ok.short c hc
  have hL3 : L.length ≤ 3 := by rw [hLl]; exact ok.len
  have hK3 := ok.len
  obtain ⟨⟨h0, b0⟩, hR⟩ : ∃ R, bhashN k i L = R := ⟨_, rfl⟩
  rw [hL, hR]
  have HK := Lib.hid hk; have HV := Lib.hid hv; have HOk := Lib.hid ok; have HL := Lib.hid hL; have HLl := Lib.hid hLl; have HLs := Lib.hid hLs; have HR := Lib.hid hR
  clear hk hv ok hL hLl hLs hR
  go_enter Tryz.func33, Tryz.ntmps33
  go_wp2_with fail
  refine wp_world (fun W hW => ?_)
  have hb0 : Below w.heap.size w W := by rw [hW]; exact (((Below.refl w.heap.size w).alloc (Nat.le_refl _) _).alloc (by simp) _).alloc (by simp; omega) _
  have hk0 : W.heap[w.heap.size]? = some (.cells #[.int .u64 k.1, .int .u64 k.2] 39 (0, 0)) := by rw [hW]; exact blk_old (blk_old (blk_new rfl))
  have hr0 : W.heap[w.heap.size + 2]? = some (.cells #[.int .i64 id, .int .i64 ver, .slice av vals.length cv] 45 (0, 0)) := by rw [hW]; exact blk_new (by simp)
  clear hW
  have HB0 := Lib.hid hb0; have HK0 := Lib.hid hk0; have HR0 := Lib.hid hr0
  clear hb0 hk0 hr0
  go_loopw [10, 16] (fun v j wr => ∃ n : Nat, j = .int .i64 n ∧ n ≤ K.length ∧ OwnV 9 1 encS W v (L.take n) wr) (fun _ j _ => K.length - (intOf j).toNat)
  case atStart => exact ⟨0, rfl, by omega, OwnV.start _ _ _ _⟩
  case round =>
    obtain ⟨n, rfl, hnK, ho⟩ := hrel
    obtain ⟨P, hP⟩ : ∃ P, L.take n = P := ⟨_, rfl⟩
    have hPl : P.length ≤ 3 := by rw [← hP, List.length_take]; omega
    rw [hP] at ho
    have HP := Lib.hid hP
    have HO := Lib.hid ho
    obtain ⟨ao, co, rfl⟩ := own_slice ho.1
    have hbw := ho.2
    clear ho hP
    by_cases hlt : n < K.length
    · have hq : decide ((n : Int) < (K.length : Int)) = true := by simp; omega
      have hji : (n : Int) < (K.length : Int) := by omega
      have hbw0 := HB0.out.trans (hbw.mono HB0.out.size)
      obtain ⟨b, off, rfl, lb, hc⟩ := (HK.out.below hbw0).get n hlt
      have c0 := hc 0 _ rfl; have c1 := hc 1 _ rfl
      obtain ⟨⟨f, t⟩, hx⟩ : ∃ x, K[n] = x := ⟨_, rfl⟩
      obtain ⟨hf0, hfv, ht, hln, has⟩ := HOk.out.fit K[n] (List.getElem_mem hlt)
      have hnL : n < L.length := by rw [HLl.out]; exact hlt
      have hxL : L[n] = compN vals (f, t) := by rw [← hx]; simp only [← HL.out, List.getElem_map]
      rw [hx] at c0 c1 hf0 hfv ht hln has
      dsimp only at c0 c1 hf0 hfv ht hln has
      rw [Nat.add_zero] at c0
      obtain ⟨fn, rfl⟩ : ∃ fn : Nat, f = fn := ⟨f.toNat, by omega⟩
      have hfn : fn < vals.length := by omega
      obtain ⟨y, hy⟩ : ∃ y, partN t (vals.getD fn []) = y := ⟨_, rfl⟩
      have hxy : L[n] = y := by rw [hxL, ← hy]; rfl
      have hts : L.take (n + 1) = P ++ [y] := by rw [List.take_succ_eq_append_getElem hnL, hxy, HP.out]
      have HTs := Lib.hid hts; have HY := Lib.hid hy; have HAs := Lib.hid has
      have hln2 : (vals.getD fn []).length ≤ 1000 := hln
      have hr1 := blk_below hbw (lt_of_blk HR0.out) HR0.out
      obtain ⟨r0, r1, r2⟩ := cells3 hr1
      have lr := lt_of_blk hr1
      have HBW := Lib.hid hbw
      have HVW := Lib.hid (HV.out.below hbw0)
      clear hc hx hxL hxy hts hy has hln hr1 hbw hbw0
      go_wp2_with fail
      refine wp_calls_world (fun Wc hWc => ?_)
      have hbc : Below wr.heap.size wr Wc := by rw [hWc]; exact (Below.refl wr.heap.size wr).alloc (Nat.le_refl _) _
      clear hWc
      refine (part_yes fn t id ver _ vals Wc (HVW.out.below hbc) hfn hn ht hln2 HAs.out).mono ?_
      rw [HY.out]
      rintro e w2 ⟨rfl, hb⟩
      have hb2 := hbc.trans (hb.mono hbc.size)
      have HO1 := Lib.hid ((HO.out.below hb2).below ((Below.refl w2.heap.size w2).alloc (Nat.le_refl _) (.cells #[strV y] 9)))
      have HR1 := Lib.hid (show Reads (w2.alloc (.cells #[strV y] 9)) 1 (.slice (some ⟨w2.heap.size, 0, none⟩) 1 1) [y].length ([y].flatMap encS) from reads_block (t := 9) (fr := (0, 0)) (blk_new rfl) rfl)
      have hcn : P.length + [y].length ≤ 1000000000 := by simp only [List.length_cons, List.length_nil]; omega
      clear hb hbc hb2
      go_wp2_with (at_builtin; refine wpList_append_v rfl (.tmp 20) (.tmp 24) 28 rfl 9 (.string ⟨#[]⟩) 1 16 encS (fun _ => rfl) oneB6 Tryz.underlying28 infoS rfl (by decide) (by decide) (w0 := W) (v := .slice ao P.length co) (A := P) (B := [y]) rfl HO1.out rfl HR1.out hcn ?_; intro v3 w3 ho3 hk3 hz3)
      go_roundw
      case rel => exact ⟨n + 1, by go_num, by omega, by rw [HTs.out]; exact ho3⟩
      case measure => simp [intOf]; omega
    · have hq : decide ((n : Int) < (K.length : Int)) = false := by simp; omega
      have htk : L.take n = L := List.take_of_length_le (by have := HLl.out; omega)
      have hPL : P = L := by rw [← HP.out]; exact htk
      subst hPL
      clear HP htk
      have HVL := Lib.hid (OwnV.vec (size := 1) (enc := encS) (fun _ => rfl) HO.out)
      have hk1 := blk_below HO.out.2 (lt_of_blk HK0.out) HK0.out
      obtain ⟨k0, k1⟩ := cells2K hk1
      have lk := lt_of_blk hk1
      cases hhas : hasB P []
      · have hR2 := HR.out
        unfold bhashN at hR2
        rw [if_neg (by rw [hhas]; decide)] at hR2
        have hd := digs_len i hi
        have hit := fun w => Tryz.strconv_Itoa_small i hi w
        obtain ⟨tt, ht⟩ : ∃ t, Lib.decDigits i = t := ⟨_, rfl⟩
        rw [ht] at hd hit hR2
        obtain ⟨ft, hft⟩ : ∃ ft, blkLabel tt = ft := ⟨_, rfl⟩
        have hf5 : 98 :: 108 :: 111 :: 99 :: 107 :: tt = ft := hft
        have hfl : ft.length ≤ 60000 := by rw [← hft]; simp [blkLabel]; omega
        rw [hft] at hR2
        obtain ⟨x, hx⟩ : ∃ x, deriveP k.1 k.2 ft = x := ⟨_, rfl⟩
        rw [hx] at hR2
        obtain ⟨e1, e2⟩ := Prod.mk.inj hR2
        subst e2
        have hl1 : ¬ 9223372036854775807 < 5 + tt.length := by omega
        have HIt := Lib.hid hit; have HHas := Lib.hid hhas; have HX := Lib.hid hx; have HE := Lib.hid e1
        clear hR2 hhas hit ht hft hx e1
        go_wp2_with fail
        refine (contains_any _ _ P [] _ HVL.out (by omega)).mono ?_
        rw [HHas.out]
        rintro e w2 ⟨rfl, rfl⟩
        go_wp2_with fail
        have bD : Below wr.heap.size wr wr.drew := (Below.refl _ _).drew
        refine wp_region_noPanic ?_
        refine wp_region_held_drew (S := (fun w' => w'.cell? ⟨w.heap.size, 0, none⟩ = some (.int .u64 k.1) ∧ w'.cell? ⟨w.heap.size, 1, none⟩ = some (.int .u64 k.2))) (by kernel_rfl) (⟨k0, k1⟩) (fun hHeld => ?_)
        refine wpAnyH_take (i := 0) (v := ?_) rfl (by kernel_rfl) (by kernel_rfl) (by kernel_rfl) (fun _ _ _ h => h) (Or.inl ⟨by rfl, ?_⟩) (by assumption) ?_
        rotate_left 1
        · (intro wS hSw; (try dsimp only at hSw); go_simp; try with_reducible rfl)
        try simp only [List.getElem_toArray, List.getElem_cons_zero, List.getElem_cons_succ, Act.put, List.setIfInBounds_toArray, List.set_cons_zero, List.set_cons_succ]
        refine wpAnyH_take (i := 1) (v := ?_) rfl (by kernel_rfl) (by kernel_rfl) (by kernel_rfl) (fun _ _ _ h => h) (Or.inl ⟨by rfl, ?_⟩) (by assumption) ?_
        rotate_left 1
        · (intro wS hSw; (try dsimp only at hSw); go_simp; try with_reducible rfl)
        try simp only [List.getElem_toArray, List.getElem_cons_zero, List.getElem_cons_succ, Act.put, List.setIfInBounds_toArray, List.set_cons_zero, List.set_cons_succ]
        refine wpAnyH_take (i := 5) (v := ?_) rfl (by kernel_rfl) (by kernel_rfl) (by kernel_rfl) (fun _ _ _ h => h) (Or.inl ⟨by rfl, ?_⟩) (by assumption) ?_
        rotate_left 1
        · (intro wS hSw; (try dsimp only at hSw); go_simp; try with_reducible rfl)
        try simp only [List.getElem_toArray, List.getElem_cons_zero, List.getElem_cons_succ, Act.put, List.setIfInBounds_toArray, List.set_cons_zero, List.set_cons_succ]
        refine wpAnyH_ready (rs := [2]) (by kernel_rfl) (by simp) ?_
        refine AllReadyH.cons rfl (fun K hK => ?_) AllReadyH.nil
        go_simp
        refine (HIt.out _).mono ?_; rintro e wq ⟨rfl, rfl⟩
        refine hK.out _ _ (⟨k0, k1⟩) (fun hHeld => ?_)
        clear hK K
        try simp only [List.getElem_toArray, List.getElem_cons_zero, List.getElem_cons_succ, Act.put, List.setIfInBounds_toArray, List.set_cons_zero, List.set_cons_succ]
        refine wpAnyH_take (i := 3) (v := ?_) rfl (by kernel_rfl) (by kernel_rfl) (by kernel_rfl) (fun _ _ _ h => h) (Or.inl ⟨by rfl, ?_⟩) (by assumption) ?_
        rotate_left 1
        · (intro wS hSw; (try dsimp only at hSw); go_simp; try with_reducible rfl)
        try simp only [List.getElem_toArray, List.getElem_cons_zero, List.getElem_cons_succ, Act.put, List.setIfInBounds_toArray, List.set_cons_zero, List.set_cons_succ]
        refine wpAnyH_ready (rs := [4]) (by kernel_rfl) (by simp) ?_
        refine AllReadyH.cons rfl (fun K hK => ?_) AllReadyH.nil
        go_simp
        refine (sderive_any k.1 k.2 ft _ hfl).mono ?_; rw [HX.out]; rintro e w3 ⟨rfl, hb⟩; have b3 := bD.trans hb; clear hb
        refine hK.out _ _ (⟨(b3.cell (p := ⟨w.heap.size, 0, none⟩) lk).trans k0, (b3.cell (p := ⟨w.heap.size, 1, none⟩) lk).trans k1⟩) (fun hHeld => ?_)
        clear hK K
        try simp only [List.getElem_toArray, List.getElem_cons_zero, List.getElem_cons_succ, Act.put, List.setIfInBounds_toArray, List.set_cons_zero, List.set_cons_succ]
        refine wpAnyH_ready (rs := [6]) (by kernel_rfl) (by simp) ?_
        refine AllReadyH.cons rfl (fun K hK => ?_) AllReadyH.nil
        go_simp
        refine (sparts_any (fun b => W.heap.size ≤ b) x.1 x.2 _ P _ (HVL.out.below b3) HLs.out (by omega)).mono ?_; rw [HE.out]; rintro e w4 ⟨rfl, hb⟩; have b4 := b3.trans (hb.mono b3.size); clear hb
        refine hK.out _ _ (⟨(b4.cell (p := ⟨w.heap.size, 0, none⟩) lk).trans k0, (b4.cell (p := ⟨w.heap.size, 1, none⟩) lk).trans k1⟩) (fun hHeld => ?_)
        clear hK K
        try simp only [List.getElem_toArray, List.getElem_cons_zero, List.getElem_cons_succ, Act.put, List.setIfInBounds_toArray, List.set_cons_zero, List.set_cons_succ]
        refine wpAnyH_take (i := 7) (v := ?_) rfl (by kernel_rfl) (by kernel_rfl) (by kernel_rfl) (fun _ _ _ h => h) (Or.inl ⟨by rfl, ?_⟩) (by assumption) ?_
        rotate_left 1
        · (intro wS hSw; (try dsimp only at hSw); go_simp; try with_reducible rfl)
        try simp only [List.getElem_toArray, List.getElem_cons_zero, List.getElem_cons_succ, Act.put, List.setIfInBounds_toArray, List.set_cons_zero, List.set_cons_succ]
        refine wpAnyH_take (i := 8) (v := ?_) rfl (by kernel_rfl) (by kernel_rfl) (by kernel_rfl) (fun _ _ _ h => h) (Or.inl ⟨by rfl, ?_⟩) (by assumption) ?_
        rotate_left 1
        · (intro wS hSw; (try dsimp only at hSw); go_simp; try with_reducible rfl)
        try simp only [List.getElem_toArray, List.getElem_cons_zero, List.getElem_cons_succ, Act.put, List.setIfInBounds_toArray, List.set_cons_zero, List.set_cons_succ]
        refine wpAnyH_done (by kernel_rfl) ?_ _
        refine NoPanic.normal ?_
        go_wp2_with fail
        go_ret2
        exact ⟨rfl, HB0.out.trans ((HO.out.2.trans (b4.mono HO.out.2.size)).mono HB0.out.size)⟩
      · have hR2 := HR.out
        unfold bhashN at hR2
        rw [if_pos hhas] at hR2
        obtain ⟨e1, e2⟩ := Prod.mk.inj hR2
        subst e1 e2
        have HHas := Lib.hid hhas
        clear hR2 hhas
        go_wp2_with fail
        refine (contains_any _ _ P [] _ HVL.out (by omega)).mono ?_
        rw [HHas.out]
        rintro e w2 ⟨rfl, rfl⟩
        go_wp2_with fail
        go_ret2
        exact ⟨rfl, HB0.out.trans (HO.out.2.mono HB0.out.size)⟩
end Go.Proofs.YtdckkggmmakfiaaGreatDoor
end
section
/- encode, the program's: encoded records. -/
set_option linter.unusedSimpArgs false
set_option linter.unusedVariables false
set_option maxRecDepth 100000
namespace Go.Proofs.YtdckkggmmakfiaaGreatDoor
open Go.RowKit Cal
attribute [local go_sem] toList_mk mk_size str_append
theorem BitsVec.slice {w : World} {S : Nat → Prop} {v : Value} {L : List BitsL} (h : BitsVec w S v L) : ∃ a cap, v = .slice a L.length cap := by
  obtain ⟨C, hv, hc⟩ := h
  obtain ⟨a, cap, rfl⟩ := hv.slice
  exact ⟨a, cap, by rw [hc.1]⟩
theorem BitsVec.below {w w' : World} {S : Nat → Prop} {v : Value} {L : List BitsL} (h : BitsVec w S v L) (hb : Below w.heap.size w w') : BitsVec w' S v L := by
  obtain ⟨C, hv, hc⟩ := h; exact ⟨C, hv.below hb, hc.below hb⟩
theorem BitsVec.move {w w' : World} {S T : Nat → Prop} {v : Value} {L : List BitsL} (h : BitsVec w S v L) (hz : w.heap.size ≤ w'.heap.size) (hS : ∀ x, x < w.heap.size → S x → w'.heap[x]? = w.heap[x]? ∧ T x) : BitsVec w' T v L := by
  obtain ⟨C, hv, hc⟩ := h; exact ⟨C, hv.move hz hS, hc.move hz hS⟩
/-- an encoded record in memory: its three cells -/
def EncVal (w : World) (S : Nat → Prop) (v : Value) (e : EncL) : Prop := ∃ s, v = .agg #[.int .i64 e.id, .int .i64 e.ver, s] ∧ BitsVec w S s e.fields
def EncPost (x : EncL) (w : World) (e : Ending) (w' : World) : Prop := ∃ v, e = .returned (.tuple #[v, .int .i64 0]) ∧ EncVal w' (fun b => w.heap.size ≤ b) v x ∧ Below w.heap.size w w'
end Go.Proofs.YtdckkggmmakfiaaGreatDoor
end
section
/- record, the program's: which records are valid. -/
set_option linter.unusedSimpArgs false
set_option linter.unusedVariables false
set_option maxRecDepth 100000
namespace Go.Proofs.YtdckkggmmakfiaaGreatDoor
open Go.RowKit Cal
attribute [local go_sem] toList_mk mk_size str_append
set_option maxHeartbeats 1000000 in
theorem numbered_any (i v : Int) (w : World) :
    Calls Tryz.prog 70 #[.int .i64 i, .int .i64 v] w fun e w' => e = .returned (.bool (numberedB i v)) ∧ w = w' := by
  unfold numberedB
  cases e1 : decide ((1 : Int) ≤ i)
  · go_enter Tryz.func70, Tryz.ntmps70
    go_wp2_with fail
    go_ret
    exact ⟨rfl, rfl⟩
  · cases e2 : decide (i ≤ (1048576 : Int))
    · go_enter Tryz.func70, Tryz.ntmps70
      go_wp2_with fail
      go_ret
      exact ⟨rfl, rfl⟩
    · cases e3 : decide ((1 : Int) ≤ v)
      · go_enter Tryz.func70, Tryz.ntmps70
        go_wp2_with fail
        go_ret
        exact ⟨rfl, rfl⟩
      · go_enter Tryz.func70, Tryz.ntmps70
        go_wp2_with fail
        go_ret
        exact ⟨rfl, rfl⟩
set_option maxHeartbeats 4000000 in
theorem rchk_any (S : Nat → Prop) (vf vt vn vs : Value) (s : SchemaL) (r : RecL) (sv : Value) (w : World) (h : SchemaAt w S vf vt vn vs s) (hv : Vec w Any1 1 encS sv r.vals) (hs : ∀ x ∈ r.vals, x.length ≤ 1000000) (hn : r.vals.length ≤ 1000000) :
    Calls Tryz.prog 44 #[.agg #[vf, vt, vn, vs], .agg #[.int .i64 r.id, .int .i64 r.ver, sv]] w fun e w' => e = .returned (.int .i64 (checkI s r)) ∧ Below w.heap.size w w' := by
  obtain ⟨a, cap, rfl⟩ := hv.slice
  obtain ⟨af, cf, rfl⟩ := h.1.slice
  obtain ⟨id, ver, vals⟩ := r
  dsimp only at hv hs hn ⊢
  have hval : checkI s ⟨id, ver, vals⟩ = if (numberedB id ver && (vals.length == s.fields.length) && normA s 0 vals) = true then 0 else 7 := rfl
  obtain ⟨c, hc⟩ : ∃ c, checkI s ⟨id, ver, vals⟩ = c := ⟨_, rfl⟩
  rw [hc] at hval ⊢
  have HV := Lib.hid hv; have HSh := Lib.hid hs; have HS := Lib.hid h.any; have HVal := Lib.hid hval
  clear hv hs h hval hc
  cases hnum : numberedB id ver
  · have h7 : c = 7 := by rw [HVal.out, hnum]; rfl
    subst h7
    have HN := Lib.hid hnum; clear hnum HVal
    go_enter Tryz.func44, Tryz.ntmps44
    go_wp2_with fail
    refine (numbered_any _ _ _).mono ?_
    rw [HN.out]
    rintro e w1 ⟨rfl, rfl⟩
    go_wp2_with fail
    go_ret
    exact ⟨rfl, ((Below.refl w.heap.size w).alloc (Nat.le_refl _) _).alloc (by simp) _⟩
  · have HN := Lib.hid hnum
    by_cases hlen : vals.length = s.fields.length
    · have HVal2 := Lib.hid (show c = if normA s 0 vals = true then 0 else 7 by rw [HVal.out, hnum, hlen]; simp)
      have hne : ((vals.length : Int) != (s.fields.length : Int)) = false := by rw [hlen]; simp
      have HL := Lib.hid hlen
      clear hnum HVal hlen
      go_enter Tryz.func44, Tryz.ntmps44
      go_wp2_with fail
      refine (numbered_any _ _ _).mono ?_
      rw [HN.out]
      rintro e w1 ⟨rfl, rfl⟩
      go_wp2_with fail
      refine wp_world (fun W hW => ?_)
      have hb0 : Below w.heap.size w W := by rw [hW]; exact ((Below.refl w.heap.size w).alloc (Nat.le_refl _) _).alloc (by simp) _
      have hs0 : W.heap[w.heap.size]? = some (.cells #[.slice af s.fields.length cf, vt, vn, vs] 33 (0, 0)) := by rw [hW]; exact blk_old (blk_new rfl)
      clear hW
      have HB0 := Lib.hid hb0; have HS0 := Lib.hid hs0; clear hb0 hs0
      go_loopw [5, 6, 25] (fun _ _ i wr => ∃ j : Nat, i = .int .i64 j ∧ j ≤ vals.length ∧ Hid (normA s j (vals.drop j) = normA s 0 vals) ∧ Below W.heap.size W wr) (fun _ _ i _ => vals.length - (intOf i).toNat)
      case atStart => exact ⟨0, rfl, by omega, Lib.hid rfl, Below.refl _ _⟩
      case round =>
        obtain ⟨j, rfl, hj, HT, hb⟩ := hrel
        have HBr := Lib.hid hb; clear hb
        by_cases hlt : j < vals.length
        · have hq : decide ((j : Int) < vals.length) = true := by simp; omega
          obtain ⟨x, hx⟩ : ∃ x, vals[j] = x := ⟨_, rfl⟩
          have hxl : x.length ≤ 1000000 := HSh.out x (by rw [← hx]; exact List.getElem_mem _)
          have hT := HT.out
          rw [List.drop_eq_getElem_cons hlt, hx, normA] at hT
          obtain ⟨b, off, rfl, hb, hc⟩ := (HV.out.below (HB0.out.trans (HBr.out.mono HB0.out.size))).get j hlt
          have c0 := hc 0 _ rfl
          rw [Nat.mul_one, Nat.add_zero, hx] at c0
          have hsr := blk_below HBr.out (lt_of_blk HS0.out) HS0.out
          obtain ⟨s0, s1, s2, s3⟩ := cellsS hsr
          have HT2 := Lib.hid hT
          clear hc hT hx hsr HT
          go_wp2_with fail
          refine (normal_s Any1 _ vt vn vs s j ⟨x.toArray⟩ _ (HS.out.below (HB0.out.trans (HBr.out.mono HB0.out.size))) (by rw [mk_size]; omega)).mono ?_
          rw [show (⟨x.toArray⟩ : ByteArray).data.toList = x by simp]
          obtain ⟨nb, hnb⟩ : ∃ nb, normalB s j x = nb := ⟨_, rfl⟩
          rw [hnb] at HT2 ⊢
          rintro e w2 ⟨rfl, hb2⟩
          have HB2 := Lib.hid (HBr.out.trans (hb2.mono HBr.out.size))
          clear hb2 hnb s0 s1 s2 s3 c0
          cases nb
          · have h7 : c = 7 := by rw [HVal2.out, ← HT2.out]; rfl
            subst h7
            go_wp2_with fail
            go_ret
            exact ⟨rfl, HB0.out.trans (HB2.out.mono HB0.out.size)⟩
          · go_wp2_with fail
            go_roundw
            case rel => exact ⟨j + 1, by go_num, by omega, Lib.hid (by rw [← HT2.out, Bool.true_and]), HB2.out⟩
            case measure => simp [intOf]; omega
        · have hq : decide ((j : Int) < vals.length) = false := by simp; omega
          obtain rfl : j = vals.length := by omega
          have h0 : c = 0 := by rw [HVal2.out, ← HT.out, List.drop_length]; rfl
          subst h0
          go_wp2_with fail
          go_ret
          exact ⟨rfl, HB0.out.trans (HBr.out.mono HB0.out.size)⟩
    · have h7 : c = 7 := by rw [HVal.out, hnum]; simp [hlen]
      have hne : ((vals.length : Int) != (s.fields.length : Int)) = true := by simp; omega
      subst h7
      clear hnum HVal hlen
      go_enter Tryz.func44, Tryz.ntmps44
      go_wp2_with fail
      refine (numbered_any _ _ _).mono ?_
      rw [HN.out]
      rintro e w1 ⟨rfl, rfl⟩
      go_wp2_with fail
      go_ret
      exact ⟨rfl, ((Below.refl w.heap.size w).alloc (Nat.le_refl _) _).alloc (by simp) _⟩
set_option maxHeartbeats 4000000 in
theorem rcheck_all (S : Nat → Prop) (vf vt vn vs : Value) (s : SchemaL) (r : RecL) (sv : Value) (w : World) (h : SchemaAt w S vf vt vn vs s) (hv : Vec w Any1 1 encS sv r.vals) (hs : ∀ x ∈ r.vals, x.length ≤ 1000000) (hn : r.vals.length ≤ 1000000) :
    Calls Tryz.prog 29 #[.agg #[vf, vt, vn, vs], .agg #[.int .i64 r.id, .int .i64 r.ver, sv]] w fun e w' => e = .returned (.int .i64 (checkN s r)) ∧ Below w.heap.size w w' := by
  have hval : checkN s r = if checkS s = 0 then checkI s r else checkS s := rfl
  obtain ⟨c, hc⟩ : ∃ c, checkN s r = c := ⟨_, rfl⟩
  obtain ⟨d, hd⟩ : ∃ d, checkS s = d := ⟨_, rfl⟩
  rw [hc, hd] at hval
  rw [hc]
  have HV := Lib.hid hv; have HS := Lib.hid h.any; have HVal := Lib.hid hval; have HD := Lib.hid hd; have HSh := Lib.hid hs
  clear hv h hval hc hd hs
  have LV : Vec w Any1 1 encS sv r.vals := HV.out
  obtain ⟨a, cap, rfl⟩ := LV.slice
  clear LV
  by_cases h0 : d = 0
  · subst h0
    have HV2 := Lib.hid (show checkI s r = c by rw [HVal.out, if_pos rfl])
    go_enter Tryz.func29, Tryz.ntmps29
    go_wp2_with fail
    refine wp_calls_world (fun W hW => ?_)
    have hb0 : Below w.heap.size w W := by rw [hW]; exact ((Below.refl w.heap.size w).alloc (Nat.le_refl _) _).alloc (by simp) _
    have hs0 : W.heap[w.heap.size]? = some (.cells #[vf, vt, vn, vs] 33 (0, 0)) := by rw [hW]; exact blk_old (blk_new rfl)
    have hr0 : W.heap[w.heap.size + 1]? = some (.cells #[.int .i64 r.id, .int .i64 r.ver, .slice a r.vals.length cap] 45 (0, 0)) := by rw [hW]; exact blk_new (by simp)
    clear hW
    refine (scheck_any Any1 _ _ _ _ s _ (HS.out.below hb0)).mono ?_
    rw [HD.out]
    rintro e w1 ⟨rfl, hb⟩
    have hs1 := blk_below hb (lt_of_blk hs0) hs0; have hr1 := blk_below hb (lt_of_blk hr0) hr0
    have HB1 := Lib.hid (hb0.trans (hb.mono hb0.size))
    obtain ⟨s0, s1, s2, s3⟩ := cellsS hs1; obtain ⟨r0, r1, r2⟩ := cells3 hr1
    clear hb hb0 hs0 hr0 hs1 hr1
    go_wp2_with fail
    refine (rchk_any Any1 _ _ _ _ s r _ _ (HS.out.below HB1.out) (HV.out.below HB1.out) HSh.out hn).mono ?_
    rw [HV2.out]
    rintro e w2 ⟨rfl, hb⟩
    have HB2 := Lib.hid (HB1.out.trans (hb.mono HB1.out.size))
    clear hb s0 s1 s2 s3 r0 r1 r2
    go_wp2_with fail
    go_ret
    exact ⟨rfl, HB2.out⟩
  · have h1 : c = d := by rw [HVal.out, if_neg h0]
    subst h1
    have hne : (c != 0) = true := by simpa using h0
    clear h0
    go_enter Tryz.func29, Tryz.ntmps29
    go_wp2_with fail
    refine (scheck_any Any1 _ _ _ _ s _ (HS.out.below (((Below.refl w.heap.size w).alloc (Nat.le_refl _) _).alloc (by simp) _))).mono ?_
    rw [HD.out]
    rintro e w1 ⟨rfl, hb⟩
    have HB1 := Lib.hid ((((Below.refl w.heap.size w).alloc (Nat.le_refl _) (.cells #[vf, vt, vn, vs] 33)).alloc (by simp) (.cells #[.int .i64 r.id, .int .i64 r.ver, .slice a r.vals.length cap] 45)).trans (hb.mono (by simp; omega)))
    clear hb
    go_wp2_with fail
    go_ret
    exact ⟨rfl, HB1.out⟩
end Go.Proofs.YtdckkggmmakfiaaGreatDoor
end
section
/- blocking, the program's: check, Part. -/
set_option linter.unusedSimpArgs false
set_option linter.unusedVariables false
set_option maxRecDepth 100000
namespace Go.Proofs.YtdckkggmmakfiaaGreatDoor
open Go.RowKit
theorem sndGo_len (l : List UInt8) : ∀ (la : UInt8) (out : List UInt8), out.length ≤ 4 → (sndGo la out l).length ≤ 4 := by
  induction l with
  | nil => intro la out h; exact h
  | cons c l ih =>
    intro la out h
    unfold sndGo
    split
    next h4 =>
      refine ih _ _ ?_
      unfold sndStep
      split
      · exact h
      · split
        · simp; omega
        · exact h
    next h4 => exact h
theorem soundL_len (l : List UInt8) : (soundL l).length ≤ 4 := by
  unfold soundL
  cases toks l with
  | nil => simp [sndFirst]
  | cons t T =>
    show (soundT t).length ≤ 4
    unfold soundT
    split
    · cases t with
      | nil => simp
      | cons c t =>
        show (padL (sndGo (codeB c) [c] t)).length ≤ 4
        have := sndGo_len t (codeB c) [c] (by simp)
        unfold padL
        simp only [List.length_append, List.length_replicate]; omega
    · simp
theorem numL_len (l : List UInt8) : (numL l).length ≤ l.length := by
  unfold numL
  cases h : (toks l).filter numB with
  | nil => simp
  | cons x L =>
    have hx : x ∈ toks l := (List.mem_filter.1 (by rw [h]; exact List.mem_cons_self)).1
    have := toks_le l [] x hx
    simpa using this
theorem partN_len (t : Int) (v : List UInt8) : (partN t v).length ≤ v.length + 4 := by
  unfold partN
  split
  · simp
  · unfold transN
    split
    · omega
    · split
      · have := soundL_len v; omega
      · split
        · rw [List.length_take]; omega
        · split
          · rw [List.length_take]; omega
          · have := numL_len v; omega
/-- the components of a valid key fit the values of a valid record -/
theorem comps_ok {s : SchemaL} {K : List (Int × Int)} {r : RecL} (h : KeyOk s.fields K) (hr : checkN s r = 0) (hs : ∀ x ∈ r.vals, x.length ≤ 64) : CompsOk K r.vals := by
  obtain ⟨hc, _, hl, hno⟩ := checkN_ok hr
  refine ⟨h.len2, fun c hcK => ?_, fun c hcK => ?_⟩
  · obtain ⟨f0, f1, f2⟩ := h.fit c hcK
    have hfn : c.1.toNat < r.vals.length := by omega
    have h64 : (r.vals.getD c.1.toNat []).length ≤ 64 := by rw [getD_at _ _ hfn]; exact hs _ (List.getElem_mem hfn)
    have ht : 1 ≤ c.2 ∧ c.2 ≤ 5 := by
      unfold fitsB at f2
      split at f2
      · omega
      · split at f2
        · omega
        · split at f2
          · omega
          · split at f2
            · omega
            · simp at f2
    refine ⟨f0, by omega, ht, by omega, fun h25 => ?_⟩
    by_cases h0 : r.vals.getD c.1.toNat [] = []
    · rw [h0]; intro b hb; simp at hb
    · have hnj := normA_get s r.vals 0 hno c.1.toNat hfn
      rw [Nat.zero_add] at hnj
      have hfi : findN s (c.1.toNat : Int) = ((s.fields.getD c.1.toNat default).2, 0) := findN_in hc (by omega)
      have hown : ownK (s.fields.getD c.1.toNat default).2 s.rules (r.vals.getD c.1.toNat []) = true := by
        unfold normalB at hnj
        rw [hfi, if_pos rfl, if_neg h0] at hnj
        exact hnj
      have hkk := findN_kind (s := s) (f := (c.1.toNat : Int)) (by rw [hfi])
      rw [hfi] at hkk
      refine (own_facts hown hkk).2.1 ?_
      rcases h25 with h2 | h5
      · unfold fitsB at f2; rw [h2] at f2; left; simpa using f2
      · unfold fitsB at f2; rw [h5] at f2; right; simpa using f2
  · obtain ⟨f0, f1, f2⟩ := h.fit c hcK
    have hfn : c.1.toNat < r.vals.length := by omega
    have h64 : (r.vals.getD c.1.toNat []).length ≤ 64 := by rw [getD_at _ _ hfn]; exact hs _ (List.getElem_mem hfn)
    have := partN_len c.2 (r.vals.getD c.1.toNat [])
    unfold compN
    omega
end Go.Proofs.YtdckkggmmakfiaaGreatDoor
end
section
/- blocking, the program's: check, Part, Hash. -/
set_option linter.unusedSimpArgs false
set_option linter.unusedVariables false
set_option maxRecDepth 100000
namespace Go.Proofs.YtdckkggmmakfiaaGreatDoor
open Go.RowKit
set_option maxHeartbeats 4000000 in
theorem bcheck2_any (S T : Nat → Prop) (vf vt vn vs kv : Value) (s : SchemaL) (Ks : List (List (Int × Int))) (i : Nat) (w : World) (h : SchemaAt w S vf vt vn vs s) (hk : KeysVec w T kv Ks) (hc : checkS s = 0) (hn : s.fields.length ≤ 1000000) (ok : KeysOk s.fields Ks) (hi : i ≤ 1000000) :
    Calls Tryz.prog 32 #[.agg #[vf, vt, vn, vs], kv, .int .i64 i] w fun e w' => e = .returned (.int .i64 (if i < Ks.length then 0 else 2)) ∧ Below w.heap.size w w' := by
  obtain ⟨ak, ck, rfl⟩ := hk.slice
  have HS := Lib.hid h; have HK := Lib.hid hk; have HOk := Lib.hid ok; have HC := Lib.hid hc
  have dz : ((0 : Int) != 0) = false := rfl
  have d0 : decide ((i : Int) < 0) = false := by simp
  obtain ⟨r, hr⟩ : ∃ r : Int, (if i < Ks.length then 0 else 2) = r := ⟨_, rfl⟩
  rw [hr]
  have HR := Lib.hid hr
  clear h hk ok hc hr
  go_enter Tryz.func32, Tryz.ntmps32
  go_wp2_with fail
  refine wp_calls_world (fun W hW => ?_)
  have hb0 : Below w.heap.size w W := by rw [hW]; exact (Below.refl w.heap.size w).alloc (Nat.le_refl _) _
  clear hW
  refine (bchk_yes S T _ _ _ _ _ s Ks W (HS.out.below hb0) (HK.out.below hb0) HC.out hn HOk.out).mono ?_
  rintro e w1 ⟨rfl, hb⟩
  have HB := Lib.hid (hb0.trans (hb.mono hb0.size))
  clear hb hb0
  by_cases hlt : i < Ks.length
  · have d1 : decide ((Ks.length : Int) ≤ (i : Int)) = false := by simp; omega
    have hr := HR.out
    rw [if_pos hlt] at hr
    subst hr
    go_wp2_with fail
    go_ret
    exact ⟨rfl, HB.out⟩
  · have d1 : decide ((Ks.length : Int) ≤ (i : Int)) = true := by simp; omega
    have hr := HR.out
    rw [if_neg hlt] at hr
    subst hr
    go_wp2_with fail
    go_ret
    exact ⟨rfl, HB.out⟩
set_option maxHeartbeats 4000000 in
theorem bpart_yes (S : Nat → Prop) (vf vt vn vs : Value) (s : SchemaL) (c : Int × Int) (r : RecL) (sv : Value) (w : World) (h : SchemaAt w S vf vt vn vs s) (hv : Vec w Any1 1 encS sv r.vals) (hr : checkN s r = 0) (hs : ∀ x ∈ r.vals, x.length ≤ 64) (hn : s.fields.length ≤ 1000) (hc0 : 0 ≤ c.1) (hc1 : c.1 < s.fields.length) (hft : fitsB c.2 (s.fields.getD c.1.toNat default).2 = true)
    (hf : 1 ≤ c.2 ∧ c.2 ≤ 5) (hl : (r.vals.getD c.1.toNat []).length ≤ 1000) (has : c.2 = 2 ∨ c.2 = 5 → ascii (r.vals.getD c.1.toNat [])) :
    Calls Tryz.prog 14 #[.agg #[vf, vt, vn, vs], .agg #[.int .i64 c.1, .int .i64 c.2], .agg #[.int .i64 r.id, .int .i64 r.ver, sv]] w fun e w' => e = .returned (strV (compN r.vals c)) ∧ Below w.heap.size w w' := by
  obtain ⟨av, cv, rfl⟩ := hv.slice
  have hvl := (checkN_ok hr).2.2.1
  obtain ⟨f, t⟩ := c
  dsimp only at hc0 hc1 hft hf hl has ⊢
  obtain ⟨fn, rfl⟩ : ∃ fn : Nat, f = fn := ⟨f.toNat, by omega⟩
  have hfn : fn < s.fields.length := by omega
  have hfv : fn < r.vals.length := by omega
  have hvn : r.vals.length ≤ 1000 := by omega
  have hft2 : fitsB t (s.fields.getD fn default).2 = true := hft
  have hl2 : (r.vals.getD fn []).length ≤ 1000 := hl
  obtain ⟨y, hy⟩ : ∃ y, partN t (r.vals.getD fn []) = y := ⟨_, rfl⟩
  have hy2 : compN r.vals ((fn : Int), t) = y := hy
  rw [hy2]
  have HS := Lib.hid h; have HV := Lib.hid hv; have HR := Lib.hid hr; have HSh := Lib.hid hs; have HFT := Lib.hid hft2; have HAs := Lib.hid (show t = 2 ∨ t = 5 → ascii (r.vals.getD fn []) from has); have HY := Lib.hid hy
  have dz : ((0 : Int) != 0) = false := rfl
  clear h hv hr hs hft hft2 has hl hvl hy hy2 hc0 hc1
  obtain ⟨rid, rver, vals⟩ := r
  dsimp only at HV hfv hvn hl2 HY HAs HSh ⊢
  go_enter Tryz.func14, Tryz.ntmps14
  go_wp2_with fail
  refine wp_calls_world (fun W hW => ?_)
  have hb0 : Below w.heap.size w W := by rw [hW]; exact (((Below.refl w.heap.size w).alloc (Nat.le_refl _) _).alloc (by simp) _).alloc (by simp; omega) _
  have hs0 : W.heap[w.heap.size]? = some (.cells #[vf, vt, vn, vs] 33 (0, 0)) := by rw [hW]; exact blk_old (blk_old (blk_new rfl))
  have hc0 : W.heap[w.heap.size + 1]? = some (.cells #[.int .i64 fn, .int .i64 t] 48 (0, 0)) := by rw [hW]; exact blk_old (blk_new (by simp))
  have hr0 : W.heap[w.heap.size + 2]? = some (.cells #[.int .i64 rid, .int .i64 rver, .slice av vals.length cv] 45 (0, 0)) := by rw [hW]; exact blk_new (by simp)
  clear hW
  refine (rcheck_all S _ _ _ _ s ⟨rid, rver, vals⟩ _ W (HS.out.below hb0) (HV.out.below hb0) (fun x hx => by have := HSh.out x hx; omega) (by show vals.length ≤ _; omega)).mono ?_
  rw [HR.out]
  rintro e w1 ⟨rfl, hb⟩
  have hs1 := blk_below hb (lt_of_blk hs0) hs0; have hc1 := blk_below hb (lt_of_blk hc0) hc0; have hr1 := blk_below hb (lt_of_blk hr0) hr0
  have HB1 := Lib.hid (hb0.trans (hb.mono hb0.size)); have HC1 := Lib.hid hc1; have HR1 := Lib.hid hr1
  obtain ⟨s0, s1, s2, s3⟩ := cellsS hs1; obtain ⟨c0, c1⟩ := cells2K hc1
  clear hb hb0 hs0 hc0 hr0 hs1 hc1 hr1
  go_wp2_with fail
  refine (right_in S _ _ _ _ s.fields fn t _ ((HS.out.below HB1.out).1) hfn (by omega)).mono ?_
  rw [HFT.out]
  rintro e w2 ⟨rfl, hb⟩
  have hc2 := blk_below hb (lt_of_blk HC1.out) HC1.out; have hr2 := blk_below hb (lt_of_blk HR1.out) HR1.out
  have HB2 := Lib.hid (HB1.out.trans (hb.mono HB1.out.size))
  clear hb s0 s1 s2 s3 c0 c1
  obtain ⟨c0, c1⟩ := cells2K hc2; obtain ⟨r0, r1, r2⟩ := cells3 hr2
  clear hc2 hr2
  go_wp2_with fail
  refine (part_yes fn t rid rver _ vals w2 (HV.out.below HB2.out) hfv (by omega) hf hl2 HAs.out).mono ?_
  rw [HY.out]
  rintro e w3 ⟨rfl, hb⟩
  go_wp2_with fail
  go_ret
  exact ⟨rfl, HB2.out.trans (hb.mono HB2.out.size)⟩
end Go.Proofs.YtdckkggmmakfiaaGreatDoor
end
section
/- blocking, the program's: Hash of a valid record for one of valid block keys. -/
set_option linter.unusedSimpArgs false
set_option linter.unusedVariables false
set_option maxRecDepth 100000
namespace Go.Proofs.YtdckkggmmakfiaaGreatDoor
open Go.RowKit
set_option maxHeartbeats 4000000 in
theorem bHash_yes (S T : Nat → Prop) (vf vt vn vs kv : Value) (s : SchemaL) (k : Int × Int) (Ks : List (List (Int × Int))) (i : Nat) (r : RecL) (sv : Value) (w : World) (h : SchemaAt w S vf vt vn vs s) (hk : KeysVec w T kv Ks) (hv : Vec w Any1 1 encS sv r.vals) (hr : checkN s r = 0) (hs : ∀ x ∈ r.vals, x.length ≤ 64) (hn : s.fields.length ≤ 1000) (ok : KeysOk s.fields Ks) (hi : i < Ks.length) :
    Calls Tryz.prog 15 #[.agg #[vf, vt, vn, vs], .agg #[.int .u64 k.1, .int .u64 k.2], kv, .int .i64 i, .agg #[.int .i64 r.id, .int .i64 r.ver, sv]] w fun e w' =>
      e = .returned (.tuple #[.int .u64 (bhashN k i ((Ks.getD i []).map (compN r.vals))).1, .bool (bhashN k i ((Ks.getD i []).map (compN r.vals))).2, .int .i64 0]) ∧ Below w.heap.size w w' := by
  obtain ⟨ak, ck, rfl⟩ := hk.slice
  obtain ⟨av, cv, rfl⟩ := hv.slice
  have hc := (checkN_ok hr).1
  have hvl := (checkN_ok hr).2.2.1
  have hvn : r.vals.length ≤ 1000 := by omega
  have hco := comps_ok (ok.key (Ks.getD i []) (by rw [getD_at _ _ hi]; exact List.getElem_mem hi)) hr hs
  have h8 := ok.len
  obtain ⟨⟨h0, b0⟩, hR⟩ : ∃ R, bhashN k i ((Ks.getD i []).map (compN r.vals)) = R := ⟨_, rfl⟩
  rw [hR]
  have HS := Lib.hid h; have HK := Lib.hid hk; have HV := Lib.hid hv; have HRc := Lib.hid hr; have HSh := Lib.hid hs; have HOk := Lib.hid ok; have HC := Lib.hid hc; have HCo := Lib.hid hco; have HR := Lib.hid hR
  have hck := Lib.hid (show (if i < Ks.length then (0 : Int) else 2) = 0 from if_pos hi)
  have dz : ((0 : Int) != 0) = false := rfl
  have hii : (i : Int) < (Ks.length : Int) := by omega
  clear h hk hv hr hs ok hc hco hR hvl
  obtain ⟨rid, rver, vals⟩ := r
  dsimp only at HV HSh hvn HCo HR ⊢
  go_enter Tryz.func15, Tryz.ntmps15
  go_wp2_with fail
  refine wp_calls_world (fun W hW => ?_)
  have hb0 : Below w.heap.size w W := by rw [hW]; exact (((Below.refl w.heap.size w).alloc (Nat.le_refl _) _).alloc (by simp) _).alloc (by simp; omega) _
  have hs0 : W.heap[w.heap.size]? = some (.cells #[vf, vt, vn, vs] 33 (0, 0)) := by rw [hW]; exact blk_old (blk_old (blk_new rfl))
  have hk0 : W.heap[w.heap.size + 1]? = some (.cells #[.int .u64 k.1, .int .u64 k.2] 39 (0, 0)) := by rw [hW]; exact blk_old (blk_new (by simp))
  have hr0 : W.heap[w.heap.size + 2]? = some (.cells #[.int .i64 rid, .int .i64 rver, .slice av vals.length cv] 45 (0, 0)) := by rw [hW]; exact blk_new (by simp)
  clear hW
  refine (bcheck2_any S T _ _ _ _ _ s Ks i W (HS.out.below hb0) (HK.out.below hb0) HC.out (by omega) HOk.out (by omega)).mono ?_
  rw [hck.out]
  rintro e w1 ⟨rfl, hb⟩
  have hs1 := blk_below hb (lt_of_blk hs0) hs0; have hk1 := blk_below hb (lt_of_blk hk0) hk0; have hr1 := blk_below hb (lt_of_blk hr0) hr0
  have HB1 := Lib.hid (hb0.trans (hb.mono hb0.size)); have HK1 := Lib.hid hk1; have HR1 := Lib.hid hr1
  obtain ⟨s0, s1, s2, s3⟩ := cellsS hs1; obtain ⟨r0, r1, r2⟩ := cells3 hr1
  clear hb hb0 hs0 hk0 hr0 hs1 hk1 hr1
  go_wp2_with fail
  refine (rcheck_all S _ _ _ _ s ⟨rid, rver, vals⟩ _ w1 (HS.out.below HB1.out) (HV.out.below HB1.out) (fun x hx => by have := HSh.out x hx; omega) (by show vals.length ≤ _; omega)).mono ?_
  rw [HRc.out]
  rintro e w2 ⟨rfl, hb⟩
  have hk2 := blk_below hb (lt_of_blk HK1.out) HK1.out; have hr2 := blk_below hb (lt_of_blk HR1.out) HR1.out
  have HB2 := Lib.hid (HB1.out.trans (hb.mono HB1.out.size))
  clear hb s0 s1 s2 s3 r0 r1 r2
  obtain ⟨k0, k1⟩ := cells2K hk2; obtain ⟨r0, r1, r2⟩ := cells3 hr2
  have lk := lt_of_blk hk2; have lr := lt_of_blk hr2
  obtain ⟨b, off, c, rfl, lb, c0, hvc⟩ := (HK.out.below HB2.out).at i hi
  obtain ⟨ca, cn, cc⟩ := c
  dsimp only at c0 hvc
  have HVC := Lib.hid hvc
  clear hk2 hr2 hvc
  go_wp2_with fail
  have bD : Below w2.heap.size w2 w2.drew := (Below.refl _ _).drew
  refine wp_region_noPanic ?_
  refine wp_region_held_drew (S := (fun w' => w'.cell? ⟨w.heap.size + 1, 0, none⟩ = some (.int .u64 k.1) ∧ w'.cell? ⟨w.heap.size + 1, 1, none⟩ = some (.int .u64 k.2) ∧ w'.cell? ⟨b, off + i, none⟩ = some (.slice ca cn cc) ∧ w'.cell? ⟨w.heap.size + 2, 0, none⟩ = some (.int .i64 rid) ∧ w'.cell? ⟨w.heap.size + 2, 1, none⟩ = some (.int .i64 rver) ∧ w'.cell? ⟨w.heap.size + 2, 2, none⟩ = some (.slice av vals.length cv))) (by kernel_rfl) (⟨k0, k1, c0, r0, r1, r2⟩) (fun hHeld => ?_)
  refine wpAnyH_take (i := 0) (v := ?_) rfl (by kernel_rfl) (by kernel_rfl) (by kernel_rfl) (fun _ _ _ h => h) (Or.inl ⟨by rfl, ?_⟩) (by assumption) ?_
  rotate_left 1
  · (intro wS hSw; (try dsimp only at hSw); go_simp; try with_reducible rfl)
  try simp only [List.getElem_toArray, List.getElem_cons_zero, List.getElem_cons_succ, Act.put, List.setIfInBounds_toArray, List.set_cons_zero, List.set_cons_succ]
  refine wpAnyH_take (i := 1) (v := ?_) rfl (by kernel_rfl) (by kernel_rfl) (by kernel_rfl) (fun _ _ _ h => h) (Or.inl ⟨by rfl, ?_⟩) (by assumption) ?_
  rotate_left 1
  · (intro wS hSw; (try dsimp only at hSw); go_simp; try with_reducible rfl)
  try simp only [List.getElem_toArray, List.getElem_cons_zero, List.getElem_cons_succ, Act.put, List.setIfInBounds_toArray, List.set_cons_zero, List.set_cons_succ]
  refine wpAnyH_take (i := 2) (v := ?_) rfl (by kernel_rfl) (by kernel_rfl) (by kernel_rfl) (fun _ _ _ h => h) (Or.inl ⟨by rfl, ?_⟩) (by assumption) ?_
  rotate_left 1
  · (intro wS hSw; (try dsimp only at hSw); go_simp; try with_reducible rfl)
  try simp only [List.getElem_toArray, List.getElem_cons_zero, List.getElem_cons_succ, Act.put, List.setIfInBounds_toArray, List.set_cons_zero, List.set_cons_succ]
  refine wpAnyH_take (i := 3) (v := ?_) rfl (by kernel_rfl) (by kernel_rfl) (by kernel_rfl) (fun _ _ _ h => h) (Or.inl ⟨by rfl, ?_⟩) (by assumption) ?_
  rotate_left 1
  · (intro wS hSw; (try dsimp only at hSw); go_simp; try with_reducible rfl)
  try simp only [List.getElem_toArray, List.getElem_cons_zero, List.getElem_cons_succ, Act.put, List.setIfInBounds_toArray, List.set_cons_zero, List.set_cons_succ]
  refine wpAnyH_take (i := 4) (v := ?_) rfl (by kernel_rfl) (by kernel_rfl) (by kernel_rfl) (fun _ _ _ h => h) (Or.inl ⟨by rfl, ?_⟩) (by assumption) ?_
  rotate_left 1
  · (intro wS hSw; (try dsimp only at hSw); go_simp; try with_reducible rfl)
  try simp only [List.getElem_toArray, List.getElem_cons_zero, List.getElem_cons_succ, Act.put, List.setIfInBounds_toArray, List.set_cons_zero, List.set_cons_succ]
  refine wpAnyH_take (i := 5) (v := ?_) rfl (by kernel_rfl) (by kernel_rfl) (by kernel_rfl) (fun _ _ _ h => h) (Or.inl ⟨by rfl, ?_⟩) (by assumption) ?_
  rotate_left 1
  · (intro wS hSw; (try dsimp only at hSw); go_simp; try with_reducible rfl)
  try simp only [List.getElem_toArray, List.getElem_cons_zero, List.getElem_cons_succ, Act.put, List.setIfInBounds_toArray, List.set_cons_zero, List.set_cons_succ]
  refine wpAnyH_take (i := 6) (v := ?_) rfl (by kernel_rfl) (by kernel_rfl) (by kernel_rfl) (fun _ _ _ h => h) (Or.inl ⟨by rfl, ?_⟩) (by assumption) ?_
  rotate_left 1
  · (intro wS hSw; (try dsimp only at hSw); go_simp; try with_reducible rfl)
  try simp only [List.getElem_toArray, List.getElem_cons_zero, List.getElem_cons_succ, Act.put, List.setIfInBounds_toArray, List.set_cons_zero, List.set_cons_succ]
  refine wpAnyH_ready (rs := [7]) (by kernel_rfl) (by simp) ?_
  refine AllReadyH.cons rfl (fun K hK => ?_) AllReadyH.nil
  go_simp
  refine (bhash_yes T k _ (Ks.getD i []) i rid rver _ vals _ (HVC.out.below bD) ((HV.out.below HB2.out).below bD) (by omega) HCo.out (by omega)).mono ?_; rw [HR.out]; rintro e w3 ⟨rfl, hb⟩; have b3 := bD.trans hb; clear hb
  refine hK.out _ _ (⟨(b3.cell (p := ⟨w.heap.size + 1, 0, none⟩) lk).trans k0, (b3.cell (p := ⟨w.heap.size + 1, 1, none⟩) lk).trans k1, (b3.cell (p := ⟨b, off + i, none⟩) lb).trans c0, (b3.cell (p := ⟨w.heap.size + 2, 0, none⟩) lr).trans r0, (b3.cell (p := ⟨w.heap.size + 2, 1, none⟩) lr).trans r1, (b3.cell (p := ⟨w.heap.size + 2, 2, none⟩) lr).trans r2⟩) (fun hHeld => ?_)
  clear hK K
  try simp only [List.getElem_toArray, List.getElem_cons_zero, List.getElem_cons_succ, Act.put, List.setIfInBounds_toArray, List.set_cons_zero, List.set_cons_succ]
  refine wpAnyH_take (i := 8) (v := ?_) rfl (by kernel_rfl) (by kernel_rfl) (by kernel_rfl) (fun _ _ _ h => h) (Or.inl ⟨by rfl, ?_⟩) (by assumption) ?_
  rotate_left 1
  · (intro wS hSw; (try dsimp only at hSw); go_simp; try with_reducible rfl)
  try simp only [List.getElem_toArray, List.getElem_cons_zero, List.getElem_cons_succ, Act.put, List.setIfInBounds_toArray, List.set_cons_zero, List.set_cons_succ]
  refine wpAnyH_take (i := 9) (v := ?_) rfl (by kernel_rfl) (by kernel_rfl) (by kernel_rfl) (fun _ _ _ h => h) (Or.inl ⟨by rfl, ?_⟩) (by assumption) ?_
  rotate_left 1
  · (intro wS hSw; (try dsimp only at hSw); go_simp; try with_reducible rfl)
  try simp only [List.getElem_toArray, List.getElem_cons_zero, List.getElem_cons_succ, Act.put, List.setIfInBounds_toArray, List.set_cons_zero, List.set_cons_succ]
  refine wpAnyH_take (i := 10) (v := ?_) rfl (by kernel_rfl) (by kernel_rfl) (by kernel_rfl) (fun _ _ _ h => h) (Or.inl ⟨by rfl, ?_⟩) (by assumption) ?_
  rotate_left 1
  · (intro wS hSw; (try dsimp only at hSw); go_simp; try with_reducible rfl)
  try simp only [List.getElem_toArray, List.getElem_cons_zero, List.getElem_cons_succ, Act.put, List.setIfInBounds_toArray, List.set_cons_zero, List.set_cons_succ]
  refine wpAnyH_take (i := 11) (v := ?_) rfl (by kernel_rfl) (by kernel_rfl) (by kernel_rfl) (fun _ _ _ h => h) (Or.inl ⟨by rfl, ?_⟩) (by assumption) ?_
  rotate_left 1
  · (intro wS hSw; (try dsimp only at hSw); go_simp; try with_reducible rfl)
  try simp only [List.getElem_toArray, List.getElem_cons_zero, List.getElem_cons_succ, Act.put, List.setIfInBounds_toArray, List.set_cons_zero, List.set_cons_succ]
  refine wpAnyH_take (i := 12) (v := ?_) rfl (by kernel_rfl) (by kernel_rfl) (by kernel_rfl) (fun _ _ _ h => h) (Or.inl ⟨by rfl, ?_⟩) (by assumption) ?_
  rotate_left 1
  · (intro wS hSw; (try dsimp only at hSw); go_simp; try with_reducible rfl)
  try simp only [List.getElem_toArray, List.getElem_cons_zero, List.getElem_cons_succ, Act.put, List.setIfInBounds_toArray, List.set_cons_zero, List.set_cons_succ]
  refine wpAnyH_done (by kernel_rfl) ?_ _
  refine NoPanic.normal ?_
  go_wp2_with fail
  go_ret3
  exact ⟨rfl, HB2.out.trans (b3.mono HB2.out.size)⟩
end Go.Proofs.YtdckkggmmakfiaaGreatDoor
end
section
/- encode, the program's: Valid, Same. -/
set_option linter.unusedSimpArgs false
set_option linter.unusedVariables false
set_option maxRecDepth 100000
namespace Go.Proofs.YtdckkggmmakfiaaGreatDoor
open Go.RowKit
def InI (n : Int) : Prop := -1000000000000000000 ≤ n ∧ n ≤ 1000000000000000000
/-- the cells of one of some arrays -/
theorem BitsVec.at {w : World} {S : Nat → Prop} {a : Option Addr} {n cap : Nat} {L : List BitsL} (h : BitsVec w S (.slice a n cap) L) (j : Nat) (hj : j < L.length) :
    ∃ (b off : Nat) (c : BV), a = some ⟨b, off, none⟩ ∧ b < w.heap.size ∧ w.cell? ⟨b, off + j * 2, none⟩ = some (.int .i64 c.len) ∧ w.cell? ⟨b, off + j * 2 + 1, none⟩ = some (.slice c.a c.n c.c) ∧ BitsAt w S (.agg (encBV c).toArray) (L.getD j noBits) := by
  obtain ⟨C, hC, hA⟩ := h
  have hj2 : j < C.length := by rw [hA.1]; exact hj
  obtain ⟨b, off, e, hb, hc⟩ := hC.get j hj2
  refine ⟨b, off, C[j], e, hb, by have := hc 0 _ rfl; simpa using this, by have := hc 1 _ rfl; simpa using this, ?_⟩
  rw [getD_at _ _ hj]
  exact hA.2 j hj2 hj
theorem BitsVec.len {w : World} {S : Nat → Prop} {a : Option Addr} {n cap : Nat} {L : List BitsL} (h : BitsVec w S (.slice a n cap) L) : n = L.length ∧ n ≤ cap := by
  obtain ⟨C, hC, hA⟩ := h
  have := hC.len; have := hA.1; omega
/-- the first of a list that has a property; -1 -/
def idxB (p : BitsL → Bool) : Nat → List BitsL → Int
  | _, [] => -1
  | i, x :: l => bif p x then (i : Int) else idxB p (i + 1) l
theorem idxB_any (p : BitsL → Bool) (L : List BitsL) : ∀ i : Nat, decide (0 ≤ idxB p i L) = L.any p := by
  induction L with
  | nil => intro i; rfl
  | cons x l ih =>
    intro i
    unfold idxB
    rw [List.any_cons]
    cases p x
    · simpa using ih (i + 1)
    · simp
end Go.Proofs.YtdckkggmmakfiaaGreatDoor
end
section
/- encode, the program's: parameters that are valid; Record. -/
set_option linter.unusedSimpArgs false
set_option linter.unusedVariables false
set_option maxRecDepth 100000
namespace Go.Proofs.YtdckkggmmakfiaaGreatDoor
open Go.RowKit Cal
attribute [local go_sem] toList_mk mk_size str_append
end Go.Proofs.YtdckkggmmakfiaaGreatDoor
end
section
/- encode, the program's: the line of a record whose arrays are all missing. -/
set_option linter.unusedSimpArgs false
set_option linter.unusedVariables false
set_option maxRecDepth 100000
namespace Go.Proofs.YtdckkggmmakfiaaGreatDoor
open Go.RowKit
attribute [local go_sem] toList_mk mk_size str_append
theorem sjoin_any (S : Nat → Prop) (v : Value) (L : List (List UInt8)) (w : World) (h : Vec w S 1 encS v L) (hn : L.length ≤ 1000000) (hj : (joinL L).length ≤ 1000000000) :
    Calls Tryz.prog 168 #[v, .string ⟨#[32]⟩] w fun e w' => e = .returned (strV (joinL L)) ∧ Below w.heap.size w w' := by
  obtain ⟨a, cap, rfl, hcap, h0⟩ := h
  have hjj : Lib.join ((L.map mkS).map (·.data.toList)) [32] = joinL L := by
    rw [List.map_map, ← join_toks]; congr 1; conv => rhs; rw [← List.map_id L]
    exact List.map_congr_left fun x _ => by simp [mkS]
  by_cases hz : L = []
  · subst hz
    exact (Tryz.strings_Join_none a cap ⟨#[32]⟩ w).mono fun e w' ⟨he, hw⟩ => ⟨he, by rw [hw]; exact Below.refl _ _⟩
  · obtain ⟨b, off, rfl, _, hb, hc⟩ := h0 (List.length_pos_iff.2 hz)
    have := Tryz.strings_Join b off cap (L.map mkS) ⟨#[32]⟩ w (fun j x hx => by
      rw [List.getElem?_map] at hx
      obtain ⟨y, hy, rfl⟩ := Option.map_eq_some_iff.1 hx
      have := hc j y hy 0 _ rfl
      simpa [mkS] using this) hb (by simp; omega) (by simpa using hcap) (by rw [show (⟨#[32]⟩ : ByteArray).data.toList = [32] from rfl, hjj]; omega)
    rw [show (⟨#[32]⟩ : ByteArray).data.toList = [32] from rfl, hjj, List.length_map] at this
    exact this
theorem EncVal.below {w w' : World} {S : Nat → Prop} {v : Value} {e : EncL} (h : EncVal w S v e) (hb : Below w.heap.size w w') : EncVal w' S v e := by
  obtain ⟨s, rfl, h⟩ := h; exact ⟨s, rfl, h.below hb⟩
/-- a row that lies in a block of its own -/
theorem own_new {α : Type} {w0 w : World} {e : TypeId} {enc : α → List Value} {L : List α} {g size n : Nat} (hb : Below w0.heap.size w0 w) (hg : w0.heap.size ≤ g) (h : w.heap[g]? = some (.cells (L.flatMap enc).toArray e (0, 0))) (hl : (L.flatMap enc).length = L.length * size) (hm : L.length ≤ 1000000) (hn : n = L.length) :
    OwnV e size enc w0 (.slice (some ⟨g, 0, none⟩) n n) L w := by
  subst hn
  exact ⟨⟨hl, .inr ⟨g, L.length, _, rfl, hg, h, Nat.le_refl _, by unfold maxLen; omega, by simpa using hl, by rw [← hl]; show List.take _ (L.flatMap enc) = _; exact List.take_length⟩⟩, hb⟩
theorem oneG : ∀ x : List UInt8, ∀ u ∈ encS x, u.oneCell' = true := by intro x u hu; simp [encS] at hu; subst hu; rfl
theorem joinDash (x y : List UInt8) : joinL [x, y, [45]] = x ++ [32] ++ y ++ [32, 45] := by simp [joinL]
end Go.Proofs.YtdckkggmmakfiaaGreatDoor
end
section
/- Plain: what a value influences; keys of fields. -/
set_option linter.unusedSimpArgs false
set_option linter.unusedVariables false
namespace Go.Proofs.YtdckkggmmakfiaaGreatDoor
open Go.RowKit
theorem fieldN_same {s : SchemaL} {p : ParL} {k : Int × Int} {A C : List (List UInt8)} {i f : Nat} (h1 : i ≠ f) (h2 : p.salt ≠ f) (hC : ∀ j, j ≠ f → C.getD j [] = A.getD j []) : fieldN s p k C i = fieldN s p k A i := by
  have hs : saltOf p C = saltOf p A := by
    unfold saltOf
    split
    next h => exact hC _ (by omega)
    next h => rfl
  unfold fieldN
  rw [hC i h1, hs]
theorem fieldN_len {s : SchemaL} {p : ParL} {k : Int × Int} {A : List (List UInt8)} {i : Nat} (hp : ParOk p) (hf : (findN s i).2 = 0) (hn : normalB s i (A.getD i []) = true) : (fieldN s p k A i).len = 0 ↔ A.getD i [] = [] := by
  unfold fieldN
  split
  next h => exact ⟨fun _ => h, fun _ => rfl⟩
  next h =>
    obtain ⟨_, g2, _, _⟩ := grams_fit hn hf
    have h1 := hp.len1
    unfold bloomN
    rw [if_pos hp.bloom, if_pos g2]
    simp only [h, iff_false]
    omega
theorem getD_fields (s : SchemaL) (P : List ParL) (k : Int × Int) (A : List (List UInt8)) (n i : Nat) (h : i < n) : (fieldsN s P k A n).getD i noBits = fieldN s (P.getD i default) k A i := by
  unfold fieldsN
  rw [getD_at _ _ (by simpa using h)]
  simp
theorem fieldsN_len (s : SchemaL) (P : List ParL) (k : Int × Int) (A : List (List UInt8)) (n : Nat) : (fieldsN s P k A n).length = n := by simp [fieldsN]
theorem getD_set (A : List (List UInt8)) (f j : Nat) (x : List UInt8) (h : j ≠ f) : (A.set f x).getD j [] = A.getD j [] := by
  simp [List.getD_eq_getElem?_getD, List.getElem?_set, Ne.symm h]
theorem getD_set_self (A : List (List UInt8)) (f : Nat) (x : List UInt8) (h : f < A.length) : (A.set f x).getD f [] = x := by
  simp [List.getD_eq_getElem?_getD, List.getElem?_set, h]
theorem digs_one (i : Nat) (h : i < 10) : Lib.decDigits i = [UInt8.ofNat (48 + i)] := by
  have : ∀ j : Fin 10, Lib.decDigits j = [UInt8.ofNat (48 + j.val)] := by decide +kernel
  exact this ⟨i, h⟩
end Go.Proofs.YtdckkggmmakfiaaGreatDoor
end
section
/- recordlinkref01.Number of a digit; blocking.Hash of an index that no key has. -/
set_option linter.unusedSimpArgs false
set_option linter.unusedVariables false
set_option maxRecDepth 100000
namespace Go.Proofs.YtdckkggmmakfiaaGreatDoor
open Go.RowKit
attribute [local go_sem] toList_mk mk_size
set_option maxHeartbeats 1000000 in
theorem rnumber_one (n : Nat) (w : World) (hn : n < 10) : Calls Tryz.prog 18 #[.int .i64 n] w fun e w' => e = .returned (strV (Lib.decDigits n)) ∧ Below w.heap.size w w' := by
  obtain ⟨c, hc⟩ : ∃ c : UInt8, UInt8.ofNat (48 + n) = c := ⟨_, rfl⟩
  have hcv : 48 + (n : Int) = (c.toNat : Int) := by rw [← hc, UInt8.toNat_ofNat']; omega
  rw [digs_one n hn, hc]
  have d1 : decide ((n : Int) < 10) = true := by simp; omega
  have hm : max (n : Int) 0 = (n : Int) := by omega
  have hown := (own_new (w0 := w) (w := w.alloc (.cells #[.int .u8 (48 + (n : Int))] 5)) (enc := encB) (L := [c]) (size := 1) (n := 1) (e := 5) (g := w.heap.size) ((Below.refl _ _).alloc (Nat.le_refl _) _) (Nat.le_refl _) (by rw [hcv]; exact blk_new rfl) rfl (by simp) rfl).1
  have hconv := run_convert_owned (P := Tryz.prog) [c] hown Tryz.underlying84 Tryz.underlying5 Tryz.underlying9
  clear hown hc hcv
  go_enter Tryz.func18, Tryz.ntmps18
  go_wp2_with fail
  go_ret
  exact ⟨rfl, (Below.refl _ _).alloc (Nat.le_refl _) _⟩
set_option maxHeartbeats 4000000 in
theorem bHash_out (S T : Nat → Prop) (vf vt vn vs kv rv : Value) (s : SchemaL) (k : Int × Int) (Ks : List (List (Int × Int))) (rc : Array Value) (i : Nat) (w : World) (h : SchemaAt w S vf vt vn vs s) (hk : KeysVec w T kv Ks) (hc : checkS s = 0) (hn : s.fields.length ≤ 1000) (ok : KeysOk s.fields Ks) (hi : Ks.length ≤ i) (hi2 : i ≤ 1000000) (id ver : Int) (sv : Value) :
    Calls Tryz.prog 15 #[.agg #[vf, vt, vn, vs], .agg #[.int .u64 k.1, .int .u64 k.2], kv, .int .i64 i, .agg #[.int .i64 id, .int .i64 ver, sv]] w fun e w' => e = .returned (.tuple #[.int .u64 0, .bool false, .int .i64 2]) ∧ Below w.heap.size w w' := by
  obtain ⟨ak, ck, rfl⟩ := hk.slice
  have HS := Lib.hid h; have HK := Lib.hid hk; have HOk := Lib.hid ok; have HC := Lib.hid hc
  have hck := Lib.hid (show (if i < Ks.length then (0 : Int) else 2) = 2 from if_neg (by omega))
  have dz : ((2 : Int) != 0) = true := rfl
  clear h hk ok hc
  go_enter Tryz.func15, Tryz.ntmps15
  go_wp2_with fail
  refine wp_calls_world (fun W hW => ?_)
  have hb0 : Below w.heap.size w W := by rw [hW]; exact (((Below.refl w.heap.size w).alloc (Nat.le_refl _) _).alloc (by simp) _).alloc (by simp; omega) _
  clear hW
  refine (bcheck2_any S T _ _ _ _ _ s Ks i W (HS.out.below hb0) (HK.out.below hb0) HC.out (by omega) HOk.out hi2).mono ?_
  rw [hck.out]
  rintro e w1 ⟨rfl, hb⟩
  have HB1 := Lib.hid (hb0.trans (hb.mono hb0.size))
  clear hb hb0
  go_wp2_with fail
  go_ret3
  exact ⟨rfl, HB1.out⟩
end Go.Proofs.YtdckkggmmakfiaaGreatDoor
end
section
/- blocking, the program's: the order of a block and a hash. -/
set_option linter.unusedSimpArgs false
set_option linter.unusedVariables false
set_option maxRecDepth 100000
namespace Go.Proofs.YtdckkggmmakfiaaGreatDoor
open Go.RowKit
set_option maxHeartbeats 1000000 in
theorem blkcmp_any (h k : Int) (v : Value) (a : Option Addr) (n c : Nat) (w : World) : Calls Tryz.prog 53 #[.agg #[.int .u64 h, .slice a n c], .int .u64 k] w fun e w' => e = .returned (.int .i64 (cmp3 h k)) ∧ Below w.heap.size w w' := by
  obtain ⟨r, hr⟩ : ∃ r, cmp3 h k = r := ⟨_, rfl⟩
  rw [hr]
  have HR := Lib.hid hr; clear hr
  go_enter Tryz.func53, Tryz.ntmps53
  go_wp2_with fail
  refine (cmpU_any h k _).mono ?_
  rw [HR.out]
  rintro e w1 ⟨rfl, rfl⟩
  go_wp2_with fail
  go_ret
  exact ⟨rfl, (Below.refl _ _).alloc (Nat.le_refl _) _⟩
end Go.Proofs.YtdckkggmmakfiaaGreatDoor
end
section
/- slices.BinarySearchFunc at blocks . -/
set_option linter.unusedSimpArgs false
set_option linter.unusedVariables false
set_option maxRecDepth 100000
namespace Go.Proofs.YtdckkggmmakfiaaGreatDoor
open Go.RowKit
def BsPost (C : List BkV) (k : Int) (w : World) (e : Ending) (w' : World) : Prop := ∃ at_ : Nat, at_ ≤ C.length ∧ (∀ t, t < at_ → (C.getD t default).h < k) ∧ (∀ t, at_ ≤ t → t < C.length → k ≤ (C.getD t default).h) ∧
  e = .returned (.tuple #[.int .i64 at_, .bool (decide (at_ < C.length ∧ (C.getD at_ default).h = k))]) ∧ Below w.heap.size w w'
set_option maxHeartbeats 4000000 in
theorem bs_any (S : Nat → Prop) (v : Value) (C : List BkV) (k : Int) (w : World) (h : Vec w S 2 encBk v C) (hs : ∀ a b, a ≤ b → b < C.length → (C.getD a default).h ≤ (C.getD b default).h) (hn : C.length ≤ 1000000) :
    Calls Tryz.prog 52 #[v, .int .u64 k, .func (.func 53) #[] #[]] w (BsPost C k w) := by
  obtain ⟨a, cap, rfl⟩ := h.slice
  have HV := Lib.hid h; have HS := Lib.hid hs
  clear h hs
  go_enter Tryz.func52, Tryz.ntmps52
  go_wp2_with fail
  go_loopw [9, 10] (fun i j wr => ∃ x y : Nat, i = .int .i64 x ∧ j = .int .i64 y ∧ x ≤ y ∧ y ≤ C.length ∧ Hid (∀ t, t < x → (C.getD t default).h < k) ∧ Hid (∀ t, y ≤ t → t < C.length → k ≤ (C.getD t default).h) ∧ Below w.heap.size w wr) (fun i j _ => (intOf j).toNat - (intOf i).toNat)
  case atStart => exact ⟨0, C.length, rfl, rfl, by omega, by omega, Lib.hid (fun t ht => by omega), Lib.hid (fun t h1 h2 => by omega), Below.refl _ _⟩
  case round =>
    obtain ⟨x, y, rfl, rfl, hxy, hy, HL, HG, hbw⟩ := hrel
    have HB := Lib.hid hbw
    by_cases hlt : x < y
    · have hq : decide ((x : Int) < (y : Int)) = true := by simp; omega
      obtain ⟨m, hm⟩ : ∃ m, (x + y) / 2 = m := ⟨_, rfl⟩
      have hm1 : x ≤ m ∧ m < y := by omega
      have hdiv : ((x : Int) + (y : Int)) / 2 = (m : Int) := by omega
      have hmi : (m : Int) < (C.length : Int) := by omega
      obtain ⟨b, off, rfl, lb, hc⟩ := (HV.out.below hbw).get m (by omega)
      have c0 := hc 0 _ rfl; have c1 := hc 1 _ rfl
      rw [Nat.add_zero] at c0
      have hmC : m < C.length := by omega
      obtain ⟨cm, hcm⟩ : ∃ z, C[m] = z := ⟨_, rfl⟩
      have hcd : C.getD m default = cm := by rw [getD_at _ _ hmC]; exact hcm
      rw [hcm] at c0 c1
      have HCD := Lib.hid hcd
      obtain ⟨ch, cA, cn, cc, cids⟩ := cm
      dsimp only at c0 c1
      obtain ⟨r, hr⟩ : ∃ r, cmp3 ch k = r := ⟨_, rfl⟩
      have HR := Lib.hid hr
      clear hm hc hcm hcd hr
      go_wp2_with fail
      refine (blkcmp_any ch k (.int .u64 0) cA cn cc _).mono ?_
      rw [HR.out]
      rintro e w1 ⟨rfl, hb⟩
      have HB1 := Lib.hid (HB.out.trans (hb.mono HB.out.size))
      clear hb
      by_cases hk : ch < k
      · have hrn : r = -1 := by rw [← HR.out]; unfold cmp3; rw [if_pos hk]
        have d1 : decide (r < 0) = true := by rw [hrn]; rfl
        have HL2 := Lib.hid (show ∀ t, t < m + 1 → (C.getD t default).h < k from fun t ht => by
          have h1 := HS.out t m (by omega) hmC
          rw [HCD.out] at h1
          have h2 : (C.getD t default).h ≤ ch := h1
          omega)
        clear hrn hk
        go_wp2_with fail
        go_roundw
        case rel => exact ⟨m + 1, y, by go_num, rfl, by omega, hy, HL2, HG, HB1.out⟩
        case measure => simp [intOf]; omega
      · have d1 : decide (r < 0) = false := by
          have : r = 0 ∨ r = 1 := by
            rw [← HR.out]; unfold cmp3; rw [if_neg hk]; split
            · right; rfl
            · left; rfl
          rcases this with h | h <;> rw [h] <;> rfl
        have HG2 := Lib.hid (show ∀ t, m ≤ t → t < C.length → k ≤ (C.getD t default).h from fun t h1 h2 => by
          have h3 := HS.out m t h1 h2
          rw [HCD.out] at h3
          have h4 : ch ≤ (C.getD t default).h := h3
          omega)
        clear hk
        go_wp2_with fail
        go_roundw
        case rel => exact ⟨x, m, rfl, rfl, by omega, by omega, HL, HG2, HB1.out⟩
        case measure => simp [intOf]; omega
    · have hq : decide ((x : Int) < (y : Int)) = false := by simp; omega
      have hxy2 : x = y := by omega
      subst hxy2
      by_cases hx : x < C.length
      · have d2 : decide ((x : Int) < (C.length : Int)) = true := by simp; omega
        have hxi : (x : Int) < (C.length : Int) := by omega
        obtain ⟨b, off, rfl, lb, hc⟩ := (HV.out.below hbw).get x hx
        have c0 := hc 0 _ rfl; have c1 := hc 1 _ rfl
        rw [Nat.add_zero] at c0
        obtain ⟨cm, hcm⟩ : ∃ z, C[x] = z := ⟨_, rfl⟩
        have hcd : C.getD x default = cm := by rw [getD_at _ _ hx]; exact hcm
        rw [hcm] at c0 c1
        obtain ⟨ch, cA, cn, cc, cids⟩ := cm
        dsimp only at c0 c1
        obtain ⟨r, hr⟩ : ∃ r, cmp3 ch k = r := ⟨_, rfl⟩
        have HR := Lib.hid hr
        have HFin := Lib.hid (show Ending.returned (.tuple #[.int .i64 x, .bool (r == 0)]) = .returned (.tuple #[.int .i64 x, .bool (decide (x < C.length ∧ (C.getD x default).h = k))]) by
          have e1 : (r == 0) = decide (x < C.length ∧ (C.getD x default).h = k) := by
            rw [hcd, ← hr, beq_dec]
            apply decide_eq_decide.2
            constructor
            · intro h; exact ⟨hx, cmp3_eq h⟩
            · intro h; have h2 : ch = k := h.2; rw [h2]; exact cmp3_self k
          rw [e1])
        clear hc hcm hcd hr
        go_wp2_with fail
        refine (blkcmp_any ch k (.int .u64 0) cA cn cc _).mono ?_
        rw [HR.out]
        rintro e w1 ⟨rfl, hb⟩
        have HB1 := Lib.hid (HB.out.trans (hb.mono HB.out.size))
        clear hb
        go_wp2_with fail
        go_ret2
        exact ⟨x, by omega, HL.out, HG.out, HFin.out, HB1.out⟩
      · have d2 : decide ((x : Int) < (C.length : Int)) = false := by simp; omega
        have HFin := Lib.hid (show Ending.returned (.tuple #[.int .i64 x, .bool false]) = .returned (.tuple #[.int .i64 x, .bool (decide (x < C.length ∧ (C.getD x default).h = k))]) by
          rw [decide_eq_false (fun h => hx h.1)])
        go_wp2_with fail
        go_ret2
        exact ⟨x, by omega, HL.out, HG.out, HFin.out, HB.out⟩
end Go.Proofs.YtdckkggmmakfiaaGreatDoor
end
section
/- record, the program's: All. -/
set_option linter.unusedSimpArgs false
set_option linter.unusedVariables false
set_option maxRecDepth 100000
namespace Go.Proofs.YtdckkggmmakfiaaGreatDoor
open Go.RowKit
structure RV where
  id : Int
  ver : Int
  a : Option Addr
  n : Nat
  c : Nat
  vals : List (List UInt8)
abbrev encRV (x : RV) : List Value := [.int .i64 x.id, .int .i64 x.ver, .slice x.a x.n x.c]
def pR (x : RV) : RecL := ⟨x.id, x.ver, x.vals⟩
/-- records in memory -/
def RecsVec (w : World) (S : Nat → Prop) (v : Value) (R : List RecL) : Prop := ∃ C : List RV, Vec w S 3 encRV v C ∧ C.map pR = R ∧ ∀ x ∈ C, Vec w S 1 encS (.slice x.a x.n x.c) x.vals
theorem RecsVec.move {w w' : World} {S T : Nat → Prop} {v : Value} {R : List RecL} (h : RecsVec w S v R) (hz : w.heap.size ≤ w'.heap.size) (hS : ∀ x, x < w.heap.size → S x → w'.heap[x]? = w.heap[x]? ∧ T x) : RecsVec w' T v R := by
  obtain ⟨C, h1, h2, h3⟩ := h
  exact ⟨C, h1.move hz hS, h2, fun x hx => (h3 x hx).move hz hS⟩
theorem RecsVec.below {w w' : World} {S : Nat → Prop} {v : Value} {R : List RecL} (h : RecsVec w S v R) (hb : Below w.heap.size w w') : RecsVec w' S v R := h.move hb.size fun x hx hs => ⟨hb.block x hx, hs⟩
theorem RecsVec.any {w : World} {S : Nat → Prop} {v : Value} {R : List RecL} (h : RecsVec w S v R) : RecsVec w Any1 v R := h.move (Nat.le_refl _) fun x hx hs => ⟨rfl, trivial⟩
theorem RecsVec.slice {w : World} {S : Nat → Prop} {v : Value} {R : List RecL} (h : RecsVec w S v R) : ∃ a cap, v = .slice a R.length cap := by
  obtain ⟨C, h1, h2, _⟩ := h
  obtain ⟨a, cap, rfl⟩ := h1.slice
  exact ⟨a, cap, by rw [← h2, List.length_map]⟩
theorem RecsVec.at {w : World} {S : Nat → Prop} {a : Option Addr} {n cap : Nat} {R : List RecL} (h : RecsVec w S (.slice a n cap) R) (j : Nat) (hj : j < R.length) :
    ∃ (b off : Nat) (id ver : Int) (aa : Option Addr) (nn cc : Nat) (vals : List (List UInt8)), a = some ⟨b, off, none⟩ ∧ b < w.heap.size ∧ w.cell? ⟨b, off + j * 3, none⟩ = some (.int .i64 id) ∧ w.cell? ⟨b, off + j * 3 + 1, none⟩ = some (.int .i64 ver) ∧ w.cell? ⟨b, off + j * 3 + 2, none⟩ = some (.slice aa nn cc) ∧ R[j] = ⟨id, ver, vals⟩ ∧ Vec w S 1 encS (.slice aa nn cc) vals := by
  obtain ⟨C, h1, h2, h3⟩ := h
  have hj2 : j < C.length := by rw [← h2, List.length_map] at hj; exact hj
  obtain ⟨b, off, e, hb, hc⟩ := h1.get j hj2
  refine ⟨b, off, C[j].id, C[j].ver, C[j].a, C[j].n, C[j].c, C[j].vals, e, hb, hc 0 _ rfl, hc 1 _ rfl, hc 2 _ rfl, ?_, h3 _ (List.getElem_mem hj2)⟩
  subst h2
  rw [List.getElem_map]; rfl
/-- an ID that is not behind the one before -/
def notB : Option Int → Int → Bool
  | some q, x => decide (x ≤ q)
  | none, _ => false
/-- the first error of a list, behind a record with an ID -/
def allA (s : SchemaL) : Option Int → List RecL → Int
  | _, [] => 0
  | p, r :: R => if checkI s r = 0 then (if notB p r.id = true then 12 else allA s (some r.id) R) else checkI s r
theorem allA_cons (s : SchemaL) (p : Option Int) (r : RecL) (R : List RecL) : allA s p (r :: R) = if checkI s r = 0 then (if notB p r.id = true then 12 else allA s (some r.id) R) else checkI s r := rfl
def allN (s : SchemaL) (R : List RecL) : Int := if checkS s = 0 then (if R.length ≤ 64 then allA s none R else 1) else checkS s
def prevR (R : List RecL) (j : Nat) : Option Int := if j = 0 then none else some (R.getD (j - 1) noRec).id
theorem allA_yes {s : SchemaL} : ∀ (R : List RecL) (p : Option Int), (∀ r ∈ R, checkI s r = 0) → (∀ q r, p = some q → R.head? = some r → q < r.id) → (∀ j (h : j + 1 < R.length), (R[j]'(by omega)).id < R[j + 1].id) → allA s p R = 0
  | [], p, _, _, _ => rfl
  | r :: R, p, h1, h2, h3 => by
    unfold allA
    rw [if_pos (h1 r List.mem_cons_self), if_neg]
    · refine allA_yes R (some r.id) (fun x hx => h1 x (List.mem_cons_of_mem _ hx)) (fun q x hq hx => ?_) (fun j h => h3 (j + 1) (by simpa using h))
      cases hq
      cases R with
      | nil => cases hx
      | cons y R => cases hx; exact h3 0 (by simp)
    · cases p with
      | none => simp [notB]
      | some q =>
        have := h2 q r rfl rfl
        simp [notB]; omega
set_option maxHeartbeats 4000000 in
theorem rall_any (S T : Nat → Prop) (vf vt vn vs rv : Value) (s : SchemaL) (R : List RecL) (w : World) (h : SchemaAt w S vf vt vn vs s) (hr : RecsVec w T rv R) (hl : ∀ r ∈ R, ∀ x ∈ r.vals, x.length ≤ 1000000) (hn : ∀ r ∈ R, r.vals.length ≤ 1000000) (hR : R.length ≤ 1000000) :
    Calls Tryz.prog 35 #[.agg #[vf, vt, vn, vs], rv] w fun e w' => e = .returned (.int .i64 (allN s R)) ∧ Below w.heap.size w w' := by
  obtain ⟨ar, cr, rfl⟩ := hr.slice
  have HS := Lib.hid h; have HR := Lib.hid hr.any; have HL := Lib.hid hl; have HN := Lib.hid hn
  obtain ⟨E, hE⟩ : ∃ E, allN s R = E := ⟨_, rfl⟩
  rw [hE]
  have HE := Lib.hid hE
  clear h hr hl hn hE
  go_enter Tryz.func35, Tryz.ntmps35
  go_wp2_with fail
  refine wp_calls_world (fun W hW => ?_)
  have hb0 : Below w.heap.size w W := by rw [hW]; exact (Below.refl w.heap.size w).alloc (Nat.le_refl _) _
  have hs0 : W.heap[w.heap.size]? = some (.cells #[vf, vt, vn, vs] 33 (0, 0)) := by rw [hW]; exact blk_new rfl
  clear hW
  refine (scheck_any S _ _ _ _ s W (HS.out.below hb0)).mono ?_
  rintro e w1 ⟨rfl, hb⟩
  have hs1 := blk_below hb (lt_of_blk hs0) hs0
  have HB1 := Lib.hid (hb0.trans (hb.mono hb0.size)); have HS1 := Lib.hid hs1
  clear hb hb0 hs0 hs1
  obtain ⟨c, hc⟩ : ∃ c, checkS s = c := ⟨_, rfl⟩
  rw [hc]
  by_cases hc0 : c = 0
  · subst hc0
    have dz : ((0 : Int) != 0) = false := rfl
    by_cases h64 : R.length ≤ 64
    · have d64 : decide ((64 : Int) < (R.length : Int)) = false := by simp; omega
      have HE2 := Lib.hid (show allA s none R = E by rw [← HE.out]; unfold allN; rw [if_pos hc, if_pos h64])
      clear hc HE
      go_wp2_with fail
      go_loopw [19] (fun t wr => ∃ j : Nat, t = .int .i64 j ∧ j ≤ R.length ∧ Hid (allA s (prevR R j) (R.drop j) = E) ∧ Below w1.heap.size w1 wr) (fun t _ => R.length - (intOf t).toNat)
      case atStart => exact ⟨0, rfl, by omega, HE2, Below.refl _ _⟩
      case round =>
        obtain ⟨j, rfl, hj, HT, hbw⟩ := hrel
        have HBW := Lib.hid hbw
        by_cases hlt : j < R.length
        · have hq : decide ((j : Int) < (R.length : Int)) = true := by simp; omega
          have hji : (j : Int) < (R.length : Int) := by omega
          have hbw0 := HB1.out.trans (hbw.mono HB1.out.size)
          obtain ⟨b, off, id, ver, aa, nn, cc, vals, rfl, lb, c0, c1, c2, hRj, hvv⟩ := (HR.out.below hbw0).at j hlt
          obtain ⟨s0, s1, s2, s3⟩ := cellsS (blk_below hbw (lt_of_blk HS1.out) HS1.out)
          have lsr : w.heap.size < wr.heap.size := by have := lt_of_blk HS1.out; have := hbw.size; omega
          have hT := HT.out
          rw [List.drop_eq_getElem_cons hlt, allA_cons] at hT
          have hmem : R[j] ∈ R := List.getElem_mem hlt
          have HLv := Lib.hid (HL.out _ hmem); have HNv := HN.out _ hmem
          have HP := Lib.hid (show j ≠ 0 → ∃ pid : Int, prevR R j = some pid ∧ wr.cell? ⟨b, off + (j - 1) * 3, none⟩ = some (.int .i64 pid) from fun h0 => by
            obtain ⟨b', off', id', ver', aa', nn', cc', vals', he, _, d0, _, _, hR', _⟩ := (HR.out.below hbw0).at (j - 1) (by omega)
            cases he
            refine ⟨id', ?_, d0⟩
            unfold prevR
            rw [if_neg h0, getD_at _ _ (by omega), hR'])
          rw [hRj] at hT HLv HNv
          have HRJ := Lib.hid hRj; have HV := Lib.hid hvv; have HT2 := Lib.hid hT
          clear hT hmem hRj hvv HT hbw
          dsimp only at HLv HNv
          have hvl := HV.out.len.1
          subst hvl
          obtain ⟨ci, hci⟩ : ∃ ci, checkI s ⟨id, ver, vals⟩ = ci := ⟨_, rfl⟩
          go_wp2_with fail
          refine wp_calls_world (fun Wc hWc => ?_)
          have hbc : Below wr.heap.size wr Wc := by rw [hWc]; exact (Below.refl wr.heap.size wr).alloc (Nat.le_refl _) _
          have hy : Wc.heap[wr.heap.size]? = some (.cells #[.int .i64 id, .int .i64 ver, .slice aa vals.length cc] 45 (0, 0)) := by rw [hWc]; exact blk_new rfl
          clear hWc
          refine (rchk_any S _ _ _ _ s ⟨id, ver, vals⟩ _ Wc ((HS.out.below hbw0).below hbc) (HV.out.below hbc) HLv.out HNv).mono ?_
          rw [hci]
          rintro e w2 ⟨rfl, hb⟩
          have hbr := hbc.trans (hb.mono hbc.size)
          have hy2 := blk_below hb (lt_of_blk hy) hy
          have HB2 := Lib.hid (HBW.out.trans (hbr.mono HBW.out.size))
          obtain ⟨r0, r1, r2⟩ := cells3 hy2
          have ly := lt_of_blk hy2
          have HBR := Lib.hid hbr
          clear hb hbc hy hy2 hbr s0 s1 s2 s3 c0 c1 c2
          by_cases hci0 : ci = 0
          · subst hci0
            have hT3 := HT2.out
            rw [hci, if_pos rfl] at hT3
            have HT3 := Lib.hid hT3
            clear hT3 HT2 hci
            by_cases hj0 : j = 0
            · have dj : decide (0 < j) = false := by simp; omega
              have HT4 := Lib.hid (show allA s (prevR R (j + 1)) (R.drop (j + 1)) = E by
                have := HT3.out
                rw [show prevR R j = none by unfold prevR; rw [if_pos hj0]] at this
                rw [← this]
                unfold prevR
                rw [if_neg (by omega), show j + 1 - 1 = j by omega, getD_at _ _ hlt, HRJ.out]; rfl)
              clear HT3 HP
              go_upto_region 12 with fail
              refine wp_region_noPanic ?_
              refine wp_region_held_drew (S := (fun w' => True)) (by kernel_rfl) (trivial) (fun hHeld => ?_)
              refine wpAnyH_take (i := 0) (v := ?_) rfl (by kernel_rfl) (by kernel_rfl) (by kernel_rfl) (fun _ _ _ h => h) (Or.inl ⟨by rfl, ?_⟩) (by assumption) ?_
              rotate_left 1
              · (intro wS hSw; (try dsimp only at hSw); go_simp; try with_reducible rfl)
              try simp only [List.getElem_toArray, List.getElem_cons_zero, List.getElem_cons_succ, Act.put, List.setIfInBounds_toArray, List.set_cons_zero, List.set_cons_succ]
              refine wpAnyH_take (i := 1) (v := ?_) rfl (by kernel_rfl) (by kernel_rfl) (by kernel_rfl) (fun _ _ _ h => h) (Or.inl ⟨by rfl, ?_⟩) (by assumption) ?_
              rotate_left 1
              · (intro wS hSw; (try dsimp only at hSw); go_simp; try with_reducible rfl)
              try simp only [List.getElem_toArray, List.getElem_cons_zero, List.getElem_cons_succ, Act.put, List.setIfInBounds_toArray, List.set_cons_zero, List.set_cons_succ]
              refine wpAnyH_take (i := 2) (v := ?_) rfl (by kernel_rfl) (by kernel_rfl) (by kernel_rfl) (fun _ _ _ h => h) (Or.inl ⟨by rfl, ?_⟩) (by assumption) ?_
              rotate_left 1
              · (intro wS hSw; (try dsimp only at hSw); go_simp; try with_reducible rfl)
              try simp only [List.getElem_toArray, List.getElem_cons_zero, List.getElem_cons_succ, Act.put, List.setIfInBounds_toArray, List.set_cons_zero, List.set_cons_succ]
              refine wpAnyH_take (i := 3) (v := undef) rfl (by kernel_rfl) (by kernel_rfl) (by kernel_rfl) (fun _ _ _ h => h) (Or.inr ⟨by rfl, rfl⟩) (by assumption) ?_
              try simp only [List.getElem_toArray, List.getElem_cons_zero, List.getElem_cons_succ, Act.put, List.setIfInBounds_toArray, List.set_cons_zero, List.set_cons_succ]
              refine wpAnyH_take (i := 4) (v := undef) rfl (by kernel_rfl) (by kernel_rfl) (by kernel_rfl) (fun _ _ _ h => h) (Or.inr ⟨by rfl, rfl⟩) (by assumption) ?_
              try simp only [List.getElem_toArray, List.getElem_cons_zero, List.getElem_cons_succ, Act.put, List.setIfInBounds_toArray, List.set_cons_zero, List.set_cons_succ]
              refine wpAnyH_take (i := 5) (v := undef) rfl (by kernel_rfl) (by kernel_rfl) (by kernel_rfl) (fun _ _ _ h => h) (Or.inr ⟨by rfl, rfl⟩) (by assumption) ?_
              try simp only [List.getElem_toArray, List.getElem_cons_zero, List.getElem_cons_succ, Act.put, List.setIfInBounds_toArray, List.set_cons_zero, List.set_cons_succ]
              refine wpAnyH_take (i := 6) (v := undef) rfl (by kernel_rfl) (by kernel_rfl) (by kernel_rfl) (fun _ _ _ h => h) (Or.inr ⟨by rfl, rfl⟩) (by assumption) ?_
              try simp only [List.getElem_toArray, List.getElem_cons_zero, List.getElem_cons_succ, Act.put, List.setIfInBounds_toArray, List.set_cons_zero, List.set_cons_succ]
              refine wpAnyH_take (i := 7) (v := undef) rfl (by kernel_rfl) (by kernel_rfl) (by kernel_rfl) (fun _ _ _ h => h) (Or.inr ⟨by rfl, rfl⟩) (by assumption) ?_
              try simp only [List.getElem_toArray, List.getElem_cons_zero, List.getElem_cons_succ, Act.put, List.setIfInBounds_toArray, List.set_cons_zero, List.set_cons_succ]
              refine wpAnyH_take (i := 8) (v := undef) rfl (by kernel_rfl) (by kernel_rfl) (by kernel_rfl) (fun _ _ _ h => h) (Or.inr ⟨by rfl, rfl⟩) (by assumption) ?_
              try simp only [List.getElem_toArray, List.getElem_cons_zero, List.getElem_cons_succ, Act.put, List.setIfInBounds_toArray, List.set_cons_zero, List.set_cons_succ]
              refine wpAnyH_take (i := 9) (v := undef) rfl (by kernel_rfl) (by kernel_rfl) (by kernel_rfl) (fun _ _ _ h => h) (Or.inr ⟨by rfl, rfl⟩) (by assumption) ?_
              try simp only [List.getElem_toArray, List.getElem_cons_zero, List.getElem_cons_succ, Act.put, List.setIfInBounds_toArray, List.set_cons_zero, List.set_cons_succ]
              refine wpAnyH_take (i := 10) (v := undef) rfl (by kernel_rfl) (by kernel_rfl) (by kernel_rfl) (fun _ _ _ h => h) (Or.inr ⟨by rfl, rfl⟩) (by assumption) ?_
              try simp only [List.getElem_toArray, List.getElem_cons_zero, List.getElem_cons_succ, Act.put, List.setIfInBounds_toArray, List.set_cons_zero, List.set_cons_succ]
              refine wpAnyH_take (i := 11) (v := undef) rfl (by kernel_rfl) (by kernel_rfl) (by kernel_rfl) (fun _ _ _ h => h) (Or.inr ⟨by rfl, rfl⟩) (by assumption) ?_
              try simp only [List.getElem_toArray, List.getElem_cons_zero, List.getElem_cons_succ, Act.put, List.setIfInBounds_toArray, List.set_cons_zero, List.set_cons_succ]
              refine wpAnyH_take (i := 12) (v := ?_) rfl (by kernel_rfl) (by kernel_rfl) (by kernel_rfl) (fun _ _ _ h => h) (Or.inl ⟨by rfl, ?_⟩) (by assumption) ?_
              rotate_left 1
              · (intro wS hSw; (try dsimp only at hSw); go_simp; try with_reducible rfl)
              try simp only [List.getElem_toArray, List.getElem_cons_zero, List.getElem_cons_succ, Act.put, List.setIfInBounds_toArray, List.set_cons_zero, List.set_cons_succ]
              refine wpAnyH_done (by kernel_rfl) ?_ _
              refine NoPanic.normal ?_
              go_wp2_with fail
              go_roundw
              case rel => exact ⟨j + 1, by go_num, by omega, HT4, HB2.out.drew⟩
              case measure => simp [intOf]; omega
            · have dj : decide (0 < j) = true := by simp; omega
              obtain ⟨pid, hpr, hpc⟩ := HP.out hj0
              have hpc2 := (HBR.out.cell (p := ⟨b, off + (j - 1) * 3, none⟩) lb).trans hpc
              have hj1 : (j : Int) - 1 < (R.length : Int) := by omega
              have hj2 : (1 : Int) ≤ (j : Int) := by omega
              have hj3 : ((j : Int) - 1).toNat = j - 1 := by omega
              have hwr : IntKind.i64.wrap ((j : Int) - 1) = (j : Int) - 1 := by rw [IntKind.wrap_i64]; omega
              have hT4 := HT3.out
              rw [hpr] at hT4
              clear HP hpc HT3
              by_cases hle : id ≤ pid
              · have dle : decide (id ≤ pid) = true := by simpa using hle
                have hE12 : E = 12 := by rw [← hT4]; unfold notB; dsimp only; rw [if_pos dle]
                subst hE12
                clear hT4
                go_upto_region 12 with fail
                refine wp_region_noPanic ?_
                refine wp_region_held_drew (S := (fun w' => w'.cell? ⟨b, off + (j - 1) * 3, none⟩ = some (.int .i64 pid) ∧ w'.cell? ⟨wr.heap.size, 0, none⟩ = some (.int .i64 id))) (by kernel_rfl) (⟨hpc2, r0⟩) (fun hHeld => ?_)
                refine wpAnyH_take (i := 0) (v := ?_) rfl (by kernel_rfl) (by kernel_rfl) (by kernel_rfl) (fun _ _ _ h => h) (Or.inl ⟨by rfl, ?_⟩) (by assumption) ?_
                rotate_left 1
                · (intro wS hSw; (try dsimp only at hSw); go_simp; try with_reducible rfl)
                try simp only [List.getElem_toArray, List.getElem_cons_zero, List.getElem_cons_succ, Act.put, List.setIfInBounds_toArray, List.set_cons_zero, List.set_cons_succ]
                refine wpAnyH_take (i := 1) (v := ?_) rfl (by kernel_rfl) (by kernel_rfl) (by kernel_rfl) (fun _ _ _ h => h) (Or.inl ⟨by rfl, ?_⟩) (by assumption) ?_
                rotate_left 1
                · (intro wS hSw; (try dsimp only at hSw); go_simp; try with_reducible rfl)
                try simp only [List.getElem_toArray, List.getElem_cons_zero, List.getElem_cons_succ, Act.put, List.setIfInBounds_toArray, List.set_cons_zero, List.set_cons_succ]
                refine wpAnyH_take (i := 2) (v := ?_) rfl (by kernel_rfl) (by kernel_rfl) (by kernel_rfl) (fun _ _ _ h => h) (Or.inl ⟨by rfl, ?_⟩) (by assumption) ?_
                rotate_left 1
                · (intro wS hSw; (try dsimp only at hSw); go_simp; try with_reducible rfl)
                try simp only [List.getElem_toArray, List.getElem_cons_zero, List.getElem_cons_succ, Act.put, List.setIfInBounds_toArray, List.set_cons_zero, List.set_cons_succ]
                refine wpAnyH_take (i := 3) (v := ?_) rfl (by kernel_rfl) (by kernel_rfl) (by kernel_rfl) (fun _ _ _ h => h) (Or.inl ⟨by rfl, ?_⟩) (by assumption) ?_
                rotate_left 1
                · (intro wS hSw; (try dsimp only at hSw); go_simp; try with_reducible rfl)
                try simp only [List.getElem_toArray, List.getElem_cons_zero, List.getElem_cons_succ, Act.put, List.setIfInBounds_toArray, List.set_cons_zero, List.set_cons_succ]
                refine wpAnyH_take (i := 4) (v := ?_) rfl (by kernel_rfl) (by kernel_rfl) (by kernel_rfl) (fun _ _ _ h => h) (Or.inl ⟨by rfl, ?_⟩) (by assumption) ?_
                rotate_left 1
                · (intro wS hSw; (try dsimp only at hSw); go_simp; try with_reducible rfl)
                try simp only [List.getElem_toArray, List.getElem_cons_zero, List.getElem_cons_succ, Act.put, List.setIfInBounds_toArray, List.set_cons_zero, List.set_cons_succ]
                refine wpAnyH_take (i := 5) (v := ?_) rfl (by kernel_rfl) (by kernel_rfl) (by kernel_rfl) (fun _ _ _ h => h) (Or.inl ⟨by rfl, ?_⟩) (by assumption) ?_
                rotate_left 1
                · (intro wS hSw; (try dsimp only at hSw); go_simp; try with_reducible rfl)
                try simp only [List.getElem_toArray, List.getElem_cons_zero, List.getElem_cons_succ, Act.put, List.setIfInBounds_toArray, List.set_cons_zero, List.set_cons_succ]
                refine wpAnyH_take (i := 6) (v := ?_) rfl (by kernel_rfl) (by kernel_rfl) (by kernel_rfl) (fun _ _ _ h => h) (Or.inl ⟨by rfl, ?_⟩) (by assumption) ?_
                rotate_left 1
                · (intro wS hSw; (try dsimp only at hSw); go_simp; try with_reducible rfl)
                try simp only [List.getElem_toArray, List.getElem_cons_zero, List.getElem_cons_succ, Act.put, List.setIfInBounds_toArray, List.set_cons_zero, List.set_cons_succ]
                refine wpAnyH_take (i := 7) (v := ?_) rfl (by kernel_rfl) (by kernel_rfl) (by kernel_rfl) (fun _ _ _ h => h) (Or.inl ⟨by rfl, ?_⟩) (by assumption) ?_
                rotate_left 1
                · (intro wS hSw; (try dsimp only at hSw); go_simp; try with_reducible rfl)
                try simp only [List.getElem_toArray, List.getElem_cons_zero, List.getElem_cons_succ, Act.put, List.setIfInBounds_toArray, List.set_cons_zero, List.set_cons_succ]
                refine wpAnyH_take (i := 8) (v := ?_) rfl (by kernel_rfl) (by kernel_rfl) (by kernel_rfl) (fun _ _ _ h => h) (Or.inl ⟨by rfl, ?_⟩) (by assumption) ?_
                rotate_left 1
                · (intro wS hSw; (try dsimp only at hSw); go_simp; try with_reducible rfl)
                try simp only [List.getElem_toArray, List.getElem_cons_zero, List.getElem_cons_succ, Act.put, List.setIfInBounds_toArray, List.set_cons_zero, List.set_cons_succ]
                refine wpAnyH_take (i := 9) (v := ?_) rfl (by kernel_rfl) (by kernel_rfl) (by kernel_rfl) (fun _ _ _ h => h) (Or.inl ⟨by rfl, ?_⟩) (by assumption) ?_
                rotate_left 1
                · (intro wS hSw; (try dsimp only at hSw); go_simp; try with_reducible rfl)
                try simp only [List.getElem_toArray, List.getElem_cons_zero, List.getElem_cons_succ, Act.put, List.setIfInBounds_toArray, List.set_cons_zero, List.set_cons_succ]
                refine wpAnyH_take (i := 10) (v := ?_) rfl (by kernel_rfl) (by kernel_rfl) (by kernel_rfl) (fun _ _ _ h => h) (Or.inl ⟨by rfl, ?_⟩) (by assumption) ?_
                rotate_left 1
                · (intro wS hSw; (try dsimp only at hSw); go_simp; try with_reducible rfl)
                try simp only [List.getElem_toArray, List.getElem_cons_zero, List.getElem_cons_succ, Act.put, List.setIfInBounds_toArray, List.set_cons_zero, List.set_cons_succ]
                refine wpAnyH_take (i := 11) (v := ?_) rfl (by kernel_rfl) (by kernel_rfl) (by kernel_rfl) (fun _ _ _ h => h) (Or.inl ⟨by rfl, ?_⟩) (by assumption) ?_
                rotate_left 1
                · (intro wS hSw; (try dsimp only at hSw); go_simp; try with_reducible rfl)
                try simp only [List.getElem_toArray, List.getElem_cons_zero, List.getElem_cons_succ, Act.put, List.setIfInBounds_toArray, List.set_cons_zero, List.set_cons_succ]
                refine wpAnyH_take (i := 12) (v := ?_) rfl (by kernel_rfl) (by kernel_rfl) (by kernel_rfl) (fun _ _ _ h => h) (Or.inl ⟨by rfl, ?_⟩) (by assumption) ?_
                rotate_left 1
                · (intro wS hSw; (try dsimp only at hSw); go_simp; try with_reducible rfl)
                try simp only [List.getElem_toArray, List.getElem_cons_zero, List.getElem_cons_succ, Act.put, List.setIfInBounds_toArray, List.set_cons_zero, List.set_cons_succ]
                refine wpAnyH_done (by kernel_rfl) ?_ _
                refine NoPanic.normal ?_
                go_wp2_with fail
                go_ret
                exact ⟨rfl, HB1.out.trans (HB2.out.drew.mono HB1.out.size)⟩
              · have dle : decide (id ≤ pid) = false := by simpa using hle
                have HT5 := Lib.hid (show allA s (prevR R (j + 1)) (R.drop (j + 1)) = E by
                  rw [← hT4]
                  unfold notB; dsimp only
                  rw [if_neg (by rw [dle]; decide)]
                  unfold prevR
                  rw [if_neg (by omega), show j + 1 - 1 = j by omega, getD_at _ _ hlt, HRJ.out])
                clear hT4
                go_upto_region 12 with fail
                refine wp_region_noPanic ?_
                refine wp_region_held_drew (S := (fun w' => w'.cell? ⟨b, off + (j - 1) * 3, none⟩ = some (.int .i64 pid) ∧ w'.cell? ⟨wr.heap.size, 0, none⟩ = some (.int .i64 id))) (by kernel_rfl) (⟨hpc2, r0⟩) (fun hHeld => ?_)
                refine wpAnyH_take (i := 0) (v := ?_) rfl (by kernel_rfl) (by kernel_rfl) (by kernel_rfl) (fun _ _ _ h => h) (Or.inl ⟨by rfl, ?_⟩) (by assumption) ?_
                rotate_left 1
                · (intro wS hSw; (try dsimp only at hSw); go_simp; try with_reducible rfl)
                try simp only [List.getElem_toArray, List.getElem_cons_zero, List.getElem_cons_succ, Act.put, List.setIfInBounds_toArray, List.set_cons_zero, List.set_cons_succ]
                refine wpAnyH_take (i := 1) (v := ?_) rfl (by kernel_rfl) (by kernel_rfl) (by kernel_rfl) (fun _ _ _ h => h) (Or.inl ⟨by rfl, ?_⟩) (by assumption) ?_
                rotate_left 1
                · (intro wS hSw; (try dsimp only at hSw); go_simp; try with_reducible rfl)
                try simp only [List.getElem_toArray, List.getElem_cons_zero, List.getElem_cons_succ, Act.put, List.setIfInBounds_toArray, List.set_cons_zero, List.set_cons_succ]
                refine wpAnyH_take (i := 2) (v := ?_) rfl (by kernel_rfl) (by kernel_rfl) (by kernel_rfl) (fun _ _ _ h => h) (Or.inl ⟨by rfl, ?_⟩) (by assumption) ?_
                rotate_left 1
                · (intro wS hSw; (try dsimp only at hSw); go_simp; try with_reducible rfl)
                try simp only [List.getElem_toArray, List.getElem_cons_zero, List.getElem_cons_succ, Act.put, List.setIfInBounds_toArray, List.set_cons_zero, List.set_cons_succ]
                refine wpAnyH_take (i := 3) (v := ?_) rfl (by kernel_rfl) (by kernel_rfl) (by kernel_rfl) (fun _ _ _ h => h) (Or.inl ⟨by rfl, ?_⟩) (by assumption) ?_
                rotate_left 1
                · (intro wS hSw; (try dsimp only at hSw); go_simp; try with_reducible rfl)
                try simp only [List.getElem_toArray, List.getElem_cons_zero, List.getElem_cons_succ, Act.put, List.setIfInBounds_toArray, List.set_cons_zero, List.set_cons_succ]
                refine wpAnyH_take (i := 4) (v := ?_) rfl (by kernel_rfl) (by kernel_rfl) (by kernel_rfl) (fun _ _ _ h => h) (Or.inl ⟨by rfl, ?_⟩) (by assumption) ?_
                rotate_left 1
                · (intro wS hSw; (try dsimp only at hSw); go_simp; try with_reducible rfl)
                try simp only [List.getElem_toArray, List.getElem_cons_zero, List.getElem_cons_succ, Act.put, List.setIfInBounds_toArray, List.set_cons_zero, List.set_cons_succ]
                refine wpAnyH_take (i := 5) (v := ?_) rfl (by kernel_rfl) (by kernel_rfl) (by kernel_rfl) (fun _ _ _ h => h) (Or.inl ⟨by rfl, ?_⟩) (by assumption) ?_
                rotate_left 1
                · (intro wS hSw; (try dsimp only at hSw); go_simp; try with_reducible rfl)
                try simp only [List.getElem_toArray, List.getElem_cons_zero, List.getElem_cons_succ, Act.put, List.setIfInBounds_toArray, List.set_cons_zero, List.set_cons_succ]
                refine wpAnyH_take (i := 6) (v := ?_) rfl (by kernel_rfl) (by kernel_rfl) (by kernel_rfl) (fun _ _ _ h => h) (Or.inl ⟨by rfl, ?_⟩) (by assumption) ?_
                rotate_left 1
                · (intro wS hSw; (try dsimp only at hSw); go_simp; try with_reducible rfl)
                try simp only [List.getElem_toArray, List.getElem_cons_zero, List.getElem_cons_succ, Act.put, List.setIfInBounds_toArray, List.set_cons_zero, List.set_cons_succ]
                refine wpAnyH_take (i := 7) (v := ?_) rfl (by kernel_rfl) (by kernel_rfl) (by kernel_rfl) (fun _ _ _ h => h) (Or.inl ⟨by rfl, ?_⟩) (by assumption) ?_
                rotate_left 1
                · (intro wS hSw; (try dsimp only at hSw); go_simp; try with_reducible rfl)
                try simp only [List.getElem_toArray, List.getElem_cons_zero, List.getElem_cons_succ, Act.put, List.setIfInBounds_toArray, List.set_cons_zero, List.set_cons_succ]
                refine wpAnyH_take (i := 8) (v := ?_) rfl (by kernel_rfl) (by kernel_rfl) (by kernel_rfl) (fun _ _ _ h => h) (Or.inl ⟨by rfl, ?_⟩) (by assumption) ?_
                rotate_left 1
                · (intro wS hSw; (try dsimp only at hSw); go_simp; try with_reducible rfl)
                try simp only [List.getElem_toArray, List.getElem_cons_zero, List.getElem_cons_succ, Act.put, List.setIfInBounds_toArray, List.set_cons_zero, List.set_cons_succ]
                refine wpAnyH_take (i := 9) (v := ?_) rfl (by kernel_rfl) (by kernel_rfl) (by kernel_rfl) (fun _ _ _ h => h) (Or.inl ⟨by rfl, ?_⟩) (by assumption) ?_
                rotate_left 1
                · (intro wS hSw; (try dsimp only at hSw); go_simp; try with_reducible rfl)
                try simp only [List.getElem_toArray, List.getElem_cons_zero, List.getElem_cons_succ, Act.put, List.setIfInBounds_toArray, List.set_cons_zero, List.set_cons_succ]
                refine wpAnyH_take (i := 10) (v := ?_) rfl (by kernel_rfl) (by kernel_rfl) (by kernel_rfl) (fun _ _ _ h => h) (Or.inl ⟨by rfl, ?_⟩) (by assumption) ?_
                rotate_left 1
                · (intro wS hSw; (try dsimp only at hSw); go_simp; try with_reducible rfl)
                try simp only [List.getElem_toArray, List.getElem_cons_zero, List.getElem_cons_succ, Act.put, List.setIfInBounds_toArray, List.set_cons_zero, List.set_cons_succ]
                refine wpAnyH_take (i := 11) (v := ?_) rfl (by kernel_rfl) (by kernel_rfl) (by kernel_rfl) (fun _ _ _ h => h) (Or.inl ⟨by rfl, ?_⟩) (by assumption) ?_
                rotate_left 1
                · (intro wS hSw; (try dsimp only at hSw); go_simp; try with_reducible rfl)
                try simp only [List.getElem_toArray, List.getElem_cons_zero, List.getElem_cons_succ, Act.put, List.setIfInBounds_toArray, List.set_cons_zero, List.set_cons_succ]
                refine wpAnyH_take (i := 12) (v := ?_) rfl (by kernel_rfl) (by kernel_rfl) (by kernel_rfl) (fun _ _ _ h => h) (Or.inl ⟨by rfl, ?_⟩) (by assumption) ?_
                rotate_left 1
                · (intro wS hSw; (try dsimp only at hSw); go_simp; try with_reducible rfl)
                try simp only [List.getElem_toArray, List.getElem_cons_zero, List.getElem_cons_succ, Act.put, List.setIfInBounds_toArray, List.set_cons_zero, List.set_cons_succ]
                refine wpAnyH_done (by kernel_rfl) ?_ _
                refine NoPanic.normal ?_
                go_wp2_with fail
                go_roundw
                case rel => exact ⟨j + 1, by go_num, by omega, HT5, HB2.out.drew⟩
                case measure => simp [intOf]; omega
          · have hE3 : E = ci := by rw [← HT2.out, hci, if_neg hci0]
            have dne : (ci != (0 : Int)) = true := by simpa using hci0
            subst hE3
            clear HT2 hci HE2 HP
            go_wp2_with fail
            go_ret
            exact ⟨rfl, HB1.out.trans (HB2.out.mono HB1.out.size)⟩
        · have hq : decide ((j : Int) < (R.length : Int)) = false := by simp; omega
          obtain rfl : j = R.length := by omega
          have hE0 : E = 0 := by rw [← HT.out, List.drop_length]; rfl
          subst hE0
          go_wp2_with fail
          go_ret
          exact ⟨rfl, HB1.out.trans (hbw.mono HB1.out.size)⟩
    · have d64 : decide ((64 : Int) < (R.length : Int)) = true := decide_eq_true (by omega)
      have hE1 : E = 1 := by rw [← HE.out]; unfold allN; rw [if_pos hc, if_neg h64]
      subst hE1
      clear hc HE
      go_wp2_with fail
      go_ret
      exact ⟨rfl, HB1.out⟩
  · have dne : (c != (0 : Int)) = true := by simpa using hc0
    have hE1 : E = c := by rw [← HE.out]; unfold allN; rw [hc, if_neg hc0]
    subst hE1
    clear HE
    go_wp2_with fail
    go_ret
    exact ⟨rfl, HB1.out⟩
end Go.Proofs.YtdckkggmmakfiaaGreatDoor
end
section
/- blocking, the program's: the blocks of records. -/
set_option linter.unusedSimpArgs false
set_option linter.unusedVariables false
set_option maxRecDepth 100000
namespace Go.Proofs.YtdckkggmmakfiaaGreatDoor
open Go.RowKit
/-- the blocks of records for block key number i -/
def blkPair (k : Int × Int) (i : Nat) (K : List (Int × Int)) (r : RecL) : (Int × Bool) × Int := (bhashN k i (K.map (compN r.vals)), r.id)
def blocksN (k : Int × Int) (i : Nat) (K : List (Int × Int)) (R : List RecL) : List BkP := addAll [] (R.map (blkPair k i K))
theorem infoIn : (Tryz.prog.info? 3).map (fun i => (i.zero, i.size, i.bytes)) = some (some (.int .i64 0), 1, 8) := by kernel_rfl
theorem pB_set (C : List BkV) (i : Nat) (x : BkV) : (C.set i x).map pB = (C.map pB).set i (pB x) := List.map_set
theorem pB_getD (C : List BkV) (i : Nat) : ((C.map pB).getD i default).1 = (C.getD i default).h := by
  rw [List.getD, List.getD, List.getElem?_map]
  cases C[i]? <;> rfl
theorem put_at (C : List BkV) (t : Nat) (h id : Int) (ht : t < C.length) (hl : ∀ q, q < t → (C.getD q default).h < h) (he : (C.getD t default).h = h) (a : Option Addr) (n c : Nat) : (C.set t ⟨C[t].h, a, n, c, C[t].ids ++ [id]⟩).map pB = addB (C.map pB) h id := by
  rw [addB_at h id (C.map pB) t (by simpa using ht) (fun q hq => by rw [pB_getD]; exact hl q hq) (by rw [pB_getD]; exact he), pB_set, List.getElem_map]
  rfl
theorem put_new (C : List BkV) (t : Nat) (h id : Int) (ht : t ≤ C.length) (hl : ∀ q, q < t → (C.getD q default).h < h) (hg : t < C.length → h < (C.getD t default).h) (a : Option Addr) (n c : Nat) (hlt : t < (C.take t ++ newBk h :: C.drop t).length) :
    ((C.take t ++ newBk h :: C.drop t).set t ⟨(C.take t ++ newBk h :: C.drop t)[t].h, a, n, c, (C.take t ++ newBk h :: C.drop t)[t].ids ++ [id]⟩).map pB = addB (C.map pB) h id := by
  have hm : (C.take t).length = t := by rw [List.length_take]; omega
  have hx : (C.take t ++ newBk h :: C.drop t)[t] = newBk h := by
    rw [List.getElem_append_right (by omega)]
    simp [hm]
  rw [addB_new h id (C.map pB) t (by simpa using ht) (fun q hq => by rw [pB_getD]; exact hl q hq) (fun h' => by rw [pB_getD]; exact hg (by simpa using h')), hx, List.set_append_right _ _ (by omega), hm, Nat.sub_self, List.set_cons_zero, List.map_append, List.map_cons, List.map_take, List.map_drop]
  rfl
def BlocksPost (L : List BkP) (w : World) (e : Ending) (w' : World) : Prop := ∃ v, e = .returned v ∧ BlocksAt w' (fun b => w.heap.size ≤ b) v L ∧ Below w.heap.size w w'
set_option maxHeartbeats 8000000 in
theorem blocks_yes (T : Nat → Prop) (k : Int × Int) (kv : Value) (K : List (Int × Int)) (i : Nat) (rv : Value) (R : List RecL) (w : World) (hk : Vec w T 2 encC kv K) (hr : RecsVec w Any1 rv R) (hn : ∀ r ∈ R, r.vals.length ≤ 1000000) (ok : ∀ r ∈ R, CompsOk K r.vals) (hR : R.length ≤ 1000) (hi : i < 100) :
    Calls Tryz.prog 36 #[.agg #[.int .u64 k.1, .int .u64 k.2], .agg #[kv], .int .i64 i, rv] w (BlocksPost (blocksN k i K R) w) := by
  obtain ⟨ak, ck, rfl⟩ := hk.slice
  obtain ⟨ar, cr, rfl⟩ := hr.slice
  obtain ⟨G, hG⟩ : ∃ G, blocksN k i K R = G := ⟨_, rfl⟩
  rw [hG]
  have HG := Lib.hid hG
  have HK := Lib.hid hk; have HR := Lib.hid hr; have HN := Lib.hid hn; have HOk := Lib.hid ok
  clear hk hr hn ok hG
  go_enter Tryz.func36, Tryz.ntmps36
  go_wp2_with fail
  refine wp_world (fun W hW => ?_)
  have hb0 : Below w.heap.size w W := by rw [hW]; exact ((Below.refl w.heap.size w).alloc (Nat.le_refl _) _).alloc (by simp) _
  have hk0 : W.heap[w.heap.size]? = some (.cells #[.int .u64 k.1, .int .u64 k.2] 39 (0, 0)) := by rw [hW]; exact blk_old (blk_new rfl)
  have hc0 : W.heap[w.heap.size + 1]? = some (.cells #[.slice ak K.length ck] 43 (0, 0)) := by rw [hW]; exact blk_new (by simp)
  clear hW
  have HB0 := Lib.hid hb0; have HK0 := Lib.hid hk0; have HC0 := Lib.hid hc0
  have lk := lt_of_blk hk0; have lc := lt_of_blk hc0
  clear hb0 hk0 hc0
  go_loopw [9, 18] (fun v t wr => ∃ (j : Nat) (C : List BkV), t = .int .i64 j ∧ j ≤ R.length ∧ C.length ≤ j ∧ BRow W v C wr ∧ AscBk (C.map pB) ∧ Hid (∀ x ∈ C, x.ids.length ≤ j) ∧ Hid (addAll (C.map pB) ((R.drop j).map (blkPair k i K)) = G)) (fun _ t _ => R.length - (intOf t).toNat)
  case atStart => exact ⟨0, [], rfl, by omega, by simp, BRow.nil (Below.refl _ _), List.Pairwise.nil, Lib.hid (fun x hx => by simp at hx), HG⟩
  case round =>
    obtain ⟨j, C, rfl, hj, hCl, hrow, hasc, HLen, HT⟩ := hrel
    have HRow := Lib.hid hrow; have HAsc := Lib.hid hasc
    clear hrow hasc
    have hbw := HRow.out.own.2
    by_cases hlt : j < R.length
    · have hq : decide ((j : Int) < (R.length : Int)) = true := by simp; omega
      have hji : (j : Int) < (R.length : Int) := by omega
      have hbW := HB0.out.trans (hbw.mono HB0.out.size)
      obtain ⟨b, off, id, ver, aa, nn, cc, vals, rfl, lb, c0, c1, c2, hRj, hvv⟩ := (HR.out.below hbW).at j hlt
      obtain ⟨k0, k1⟩ := cells2K (blk_below hbw lk HK0.out)
      have kc := (hbw.cell (p := ⟨w.heap.size + 1, 0, none⟩) lc).trans (by rw [cell_of_row _ _ _ _ _ _ HC0.out]; rfl : W.cell? ⟨w.heap.size + 1, 0, none⟩ = some (.slice ak K.length ck))
      have lkr : w.heap.size < wr.heap.size := by have := hbw.size; omega
      have lcr : w.heap.size + 1 < wr.heap.size := by have := hbw.size; omega
      have hmem : R[j] ∈ R := List.getElem_mem hlt
      have hok := HOk.out _ hmem; have hvn := HN.out _ hmem
      rw [hRj] at hok hvn
      dsimp only at hok hvn
      have hT := HT.out
      rw [List.drop_eq_getElem_cons hlt, List.map_cons, hRj] at hT
      obtain ⟨⟨h, ok⟩, hh⟩ : ∃ p, bhashN k i (K.map (compN vals)) = p := ⟨_, rfl⟩
      have hT2 : addAll (if ok = true then addB (C.map pB) h id else C.map pB) ((R.drop (j + 1)).map (blkPair k i K)) = G := by
        rw [← hT]
        simp only [addAll, blkPair, hh]
      have HT2 := Lib.hid hT2; have HH := Lib.hid hh; have HV := Lib.hid hvv; have HOk1 := Lib.hid hok
      clear hT hT2 hh hvv hok hmem hRj HT hbW
      have hvl := HV.out.len.1
      subst hvl
      have HBw := Lib.hid hbw
      clear hbw
      go_wp2_with fail
      refine wp_calls_world (fun Wc hWc => ?_)
      have hbc : Below wr.heap.size wr Wc := by rw [hWc]; exact (Below.refl wr.heap.size wr).alloc (Nat.le_refl _) _
      have hy : Wc.heap[wr.heap.size]? = some (.cells #[.int .i64 id, .int .i64 ver, .slice aa vals.length cc] 45 (0, 0)) := by rw [hWc]; exact blk_new rfl
      clear hWc
      refine (bhash_yes T k _ K i id ver _ vals Wc ((HK.out.below HB0.out).below HBw.out |>.below hbc) (HV.out.below hbc) hvn HOk1.out hi).mono ?_
      rw [HH.out]
      rintro e w2 ⟨rfl, hb⟩
      have hbr := hbc.trans (hb.mono hbc.size)
      have hy2 := blk_below hb (lt_of_blk hy) hy
      have HRow2 := Lib.hid (HRow.out.below hbr)
      have HY2 := Lib.hid hy2
      clear hb hbc hy hy2 k0 k1 kc c0 c1 c2
      cases ok
      · have HT3 := Lib.hid (show addAll (C.map pB) ((R.drop (j + 1)).map (blkPair k i K)) = G by have := HT2.out; simpa using this)
        clear HT2
        go_wp2_with fail
        go_roundw
        case rel => exact ⟨j + 1, C, by go_num, by omega, by omega, HRow2.out, HAsc.out, Lib.hid (fun x hx => Nat.le_succ_of_le (HLen.out x hx)), HT3⟩
        case measure => simp [intOf]; omega
      · have HT3 := Lib.hid (show addAll (addB (C.map pB) h id) ((R.drop (j + 1)).map (blkPair k i K)) = G by have := HT2.out; simpa using this)
        clear HT2
        go_wp2_with fail
        refine (bs_any (fun b => W.heap.size ≤ b) _ C h w2 (OwnV.vec (size := 2) (enc := encBk) (fun _ => rfl) HRow2.out.own) (fun p q hpq hq' => by have := HAsc.out.le p q hpq (by simpa using hq'); rwa [pB_getD, pB_getD] at this) (by omega)).mono ?_
        rintro e w3 ⟨at_, ha1, ha2, ha3, rfl, hb3⟩
        have hy3 := blk_below hb3 (lt_of_blk HY2.out) HY2.out
        have HRow3 := Lib.hid (HRow2.out.below hb3)
        have HY3 := Lib.hid hy3
        have HA2 := Lib.hid ha2; have HA3 := Lib.hid ha3
        have hsz3 : wr.heap.size < w3.heap.size := lt_of_blk hy3
        obtain ⟨f, hf⟩ : ∃ f, decide (at_ < C.length ∧ (C.getD at_ default).h = h) = f := ⟨_, rfl⟩
        rw [hf]
        clear hy3 ha2 ha3 hb3 HRow2 HY2
        go_upto_if 39 with (fail)
        go_cut [9] (fun s9 wx => ∃ C' : List BkV, ∃ ht : at_ < C'.length, BRow W s9 C' wx ∧ wx.heap[wr.heap.size]? = some (.cells #[.int .i64 id, .int .i64 ver, .slice aa vals.length cc] 45 (0, 0)) ∧ C'.length ≤ C.length + 1 ∧ Hid (∀ x ∈ C', x.ids.length ≤ j) ∧ Hid (∀ a n c, (C'.set at_ ⟨C'[at_].h, a, n, c, C'[at_].ids ++ [id]⟩).map pB = addB (C.map pB) h id))
        case first =>
          cases f
          · have hnf := of_decide_eq_false hf
            clear hf
            go_wp2_with fail
            refine wp_calls_world (fun W4 hW4 => ?_)
            have hb4 : Below w3.heap.size w3 W4 := by rw [hW4]; exact (Below.refl w3.heap.size w3).alloc (Nat.le_refl _) _
            have hx4 : W4.heap[w3.heap.size]? = some (.cells #[.int .u64 h, .slice none 0 0] 64 (0, 0)) := by rw [hW4]; exact blk_new rfl
            clear hW4
            have HRow4 := HRow3.out.below hb4
            have hy4 := blk_below hb4 (lt_of_blk HY3.out) HY3.out
            have hnb : ∀ g, (u9).ownBlock = some g → g < wr.heap.size := fun g hg => (HRow.out.own.1.lt g hg).2
            refine (insert_bk W _ C at_ h w3.heap.size W4 HRow4.own hx4 (fun e => by have := hnb _ e; omega) (by omega) ha1).mono ?_
            rintro e w5 ⟨v5, rfl, ho5, hk5, hz5, hv5⟩
            have hrow5 := HRow4.put at_ ha1 h ho5 hk5 hv5
            have hy5 := hk5 wr.heap.size _ (fun e => by have := hnb _ e.symm; omega) hy4
            have hl5 : at_ < (C.take at_ ++ newBk h :: C.drop at_).length := by simp; omega
            have HRow5 := Lib.hid hrow5; have HY5 := Lib.hid hy5
            clear hrow5 hy5 hb4 hx4 HRow4 hy4 ho5 hk5 hv5
            go_wp2_with fail
            go_meet
            exact ⟨_, hl5, HRow5.out, HY5.out, by simp; omega, Lib.hid (fun x hx => by rcases List.mem_append.1 hx with h1 | h1; · exact HLen.out x (List.mem_of_mem_take h1)
                                                                                       · rcases List.mem_cons.1 h1 with h2 | h2; · rw [h2]; simp [newBk]
                                                                                         · exact HLen.out x (List.mem_of_mem_drop h2)), Lib.hid (fun a n c => put_new C at_ h id ha1 HA2.out (fun h' => by have h1 := HA3.out at_ (Nat.le_refl _) h'; have h2 : (C.getD at_ default).h ≠ h := fun e => hnf ⟨h', e⟩; omega) a n c hl5)⟩
          · have hyf := of_decide_eq_true hf
            clear hf
            go_wp2_with fail
            go_meet
            exact ⟨C, hyf.1, HRow3.out, HY3.out, by omega, HLen, Lib.hid (fun a n c => put_at C at_ h id hyf.1 HA2.out hyf.2 a n c)⟩
        case rest =>
          obtain ⟨C', ht, hrow', hy', hl', HLen', HPut⟩ := hcut
          have HRow' := Lib.hid hrow'
          rcases hrow'.own.1.2 with ⟨_, h0⟩ | ⟨g, cap, cur, rfl, hg, hgc, hn1, hn2, hn3, hn4⟩
          · have : C'.length = 0 := h0
            omega
          obtain ⟨x, hx⟩ : ∃ x, C'[at_] = x := ⟨_, rfl⟩
          have hids := hrow'.ids _ (List.getElem_mem ht)
          have hc1 : wc.cell? ⟨g, at_ * 2 + 1, none⟩ = some (idV C'[at_]) := by
            obtain ⟨b0, o0, e0, _, hc⟩ := (OwnV.vec (size := 2) (enc := encBk) (fun _ => rfl) hrow'.own).get at_ ht
            cases e0
            have := hc 1 _ rfl
            rwa [Nat.zero_add] at this
          rw [hx] at hids hc1
          obtain ⟨xh, xa, xn, xc, xi⟩ := x
          dsimp only [idV] at hids hc1
          have hfr := (frozen_of_row _ _ _ _ _ hgc : wc.frozen? ⟨g, at_ * 2 + 1, none⟩ = false)
          obtain ⟨r0, r1, r2⟩ := cells3 hy'
          have lgc := lt_of_blk hgc; have lyc := lt_of_blk hy'
          have HPut2 := HPut.out
          rw [hx] at HPut2
          have HP2 := Lib.hid HPut2
          have HIds := Lib.hid hids; have HX := Lib.hid hx
          have htn : (at_ : Int) < (C'.length : Int) := by omega
          obtain ⟨i0, hi0, hz0, hz1, hz2⟩ := info_parts infoIn
          have HI := Lib.hid hi0; have HZ0 := Lib.hid hz0; have HZ1 := Lib.hid hz1; have HZ2 := Lib.hid hz2
          have hoff := hrow'.off _ (List.getElem_mem ht)
          rw [hx] at hoff
          have hWc := hrow'.own.2
          have HWc := Lib.hid hWc
          have hWz := hWc.size
          have HOff := Lib.hid (show some g ≠ (Value.slice xa xn xc).ownBlock from by
            rcases hoff with h1 | h1
            · rw [show (Value.slice xa xn xc).ownBlock = none from h1]; simp
            · exact fun e => h1 (by rw [show (idV ⟨xh, xa, xn, xc, xi⟩).ownBlock = some g from e.symm]; rfl))
          have hxil : xi.length ≤ j := by have := HLen'.out _ (List.getElem_mem ht); rw [HX.out] at this; exact this
          clear hgc hn1 hn2 hn3 hn4 hy' hrow' HPut HPut2 hids hx hi0 hz0 hz1 hz2 hoff hWc r1 r2
          have bA := ((Below.refl wc.heap.size wc).drew).alloc (Nat.le_refl _) (.cells #[.int .i64 id] 3)
          have hown := own_below HIds.out bA
          have hnews : ∀ j u, [Value.int .i64 id][j]? = some u → ((wc.drew).alloc (.cells #[.int .i64 id] 3)).cell? ((⟨wc.heap.size, 0, none⟩ : Addr).add j) = some u := fun j u hu => by
            have hX : ((wc.drew).alloc (.cells #[.int .i64 id] 3)).heap[wc.heap.size]? = some (.cells #[.int .i64 id] 3 (0, 0)) := blk_new rfl
            rw [add_plain, cell_of_row _ _ _ _ _ _ hX, Nat.zero_add]; simpa using hu
          have hone : ∀ u ∈ [Value.int .i64 id], u.oneCell' = true := by intro u hu; simp at hu; subst hu; rfl
          go_wp2_with fail
          refine wp_region_noPanic ?_
          refine wp_region_k (by kernel_rfl) (fun w' => w'.cell? ⟨g, at_ * 2 + 1, none⟩ = some (.slice xa xn xc) ∧ w'.cell? ⟨wr.heap.size, 0, none⟩ = some (.int .i64 id)) 10 (⟨hc1, r0⟩) (fun hHeld => ?_)
          refine wpAnyK_take0 (i := 0) (v := ?_) rfl (by kernel_rfl) (by kernel_rfl) (by kernel_rfl) (by decide) (fun _ _ _ h => h) (Or.inl ⟨by rfl, ?_⟩) (by first | exact fun _ => by assumption | exact fun h => absurd h (by decide)) ?_
          rotate_left 1
          · (intro wS hSw; (try dsimp only at hSw); go_simp; try with_reducible rfl)
          try simp only [List.getElem_toArray, List.getElem_cons_zero, List.getElem_cons_succ, Act.put, List.setIfInBounds_toArray, List.set_cons_zero, List.set_cons_succ]
          refine wpAnyK_take0 (i := 1) (v := ?_) rfl (by kernel_rfl) (by kernel_rfl) (by kernel_rfl) (by decide) (fun _ _ _ h => h) (Or.inl ⟨by rfl, ?_⟩) (by first | exact fun _ => by assumption | exact fun h => absurd h (by decide)) ?_
          rotate_left 1
          · (intro wS hSw; (try dsimp only at hSw); go_simp; try with_reducible rfl)
          try simp only [List.getElem_toArray, List.getElem_cons_zero, List.getElem_cons_succ, Act.put, List.setIfInBounds_toArray, List.set_cons_zero, List.set_cons_succ]
          refine wpAnyK_take (i := 2) (v := ?_) rfl (by kernel_rfl) (by kernel_rfl) (by kernel_rfl) (by kernel_rfl) (fun _ _ _ h => h) (Or.inl ⟨by rfl, ?_⟩) (by assumption) ?_
          rotate_left 1
          · (intro wS hSw; (try dsimp only at hSw); go_simp; try with_reducible rfl)
          try simp only [List.getElem_toArray, List.getElem_cons_zero, List.getElem_cons_succ, Act.put, List.setIfInBounds_toArray, List.set_cons_zero, List.set_cons_succ]
          refine wpAnyK_take (i := 3) (v := ?_) rfl (by kernel_rfl) (by kernel_rfl) (by kernel_rfl) (by kernel_rfl) (fun _ _ _ h => h) (Or.inl ⟨by rfl, ?_⟩) (by assumption) ?_
          rotate_left 1
          · (intro wS hSw; (try dsimp only at hSw); go_simp; try with_reducible rfl)
          try simp only [List.getElem_toArray, List.getElem_cons_zero, List.getElem_cons_succ, Act.put, List.setIfInBounds_toArray, List.set_cons_zero, List.set_cons_succ]
          refine wpAnyK_take (i := 4) (v := ?_) rfl (by kernel_rfl) (by kernel_rfl) (by kernel_rfl) (by kernel_rfl) (fun _ _ _ h => h) (Or.inl ⟨by rfl, ?_⟩) (by assumption) ?_
          rotate_left 1
          · (intro wS hSw; (try dsimp only at hSw); go_simp; try with_reducible rfl)
          try simp only [List.getElem_toArray, List.getElem_cons_zero, List.getElem_cons_succ, Act.put, List.setIfInBounds_toArray, List.set_cons_zero, List.set_cons_succ]
          refine wpAnyK_take (i := 5) (v := ?_) rfl (by kernel_rfl) (by kernel_rfl) (by kernel_rfl) (by kernel_rfl) (fun _ _ _ h => h) (Or.inl ⟨by rfl, ?_⟩) (by assumption) ?_
          rotate_left 1
          · (intro wS hSw; (try dsimp only at hSw); go_simp; try with_reducible rfl)
          try simp only [List.getElem_toArray, List.getElem_cons_zero, List.getElem_cons_succ, Act.put, List.setIfInBounds_toArray, List.set_cons_zero, List.set_cons_succ]
          refine wpAnyK_take (i := 6) (v := ?_) rfl (by kernel_rfl) (by kernel_rfl) (by kernel_rfl) (by kernel_rfl) (fun _ _ _ h => h) (Or.inl ⟨by rfl, ?_⟩) (by assumption) ?_
          rotate_left 1
          · (intro wS hSw; (try dsimp only at hSw); go_simp; try with_reducible rfl)
          try simp only [List.getElem_toArray, List.getElem_cons_zero, List.getElem_cons_succ, Act.put, List.setIfInBounds_toArray, List.set_cons_zero, List.set_cons_succ]
          refine wpAnyK_take (i := 7) (v := ?_) rfl (by kernel_rfl) (by kernel_rfl) (by kernel_rfl) (by kernel_rfl) (fun _ _ _ h => h) (Or.inl ⟨by rfl, ?_⟩) (by assumption) ?_
          rotate_left 1
          · (intro wS hSw; (try dsimp only at hSw); go_simp; try with_reducible rfl)
          try simp only [List.getElem_toArray, List.getElem_cons_zero, List.getElem_cons_succ, Act.put, List.setIfInBounds_toArray, List.set_cons_zero, List.set_cons_succ]
          refine wpAnyK_take (i := 8) (v := ?_) rfl (by kernel_rfl) (by kernel_rfl) (by kernel_rfl) (by kernel_rfl) (fun _ _ _ h => h) (Or.inl ⟨by rfl, ?_⟩) (by assumption) ?_
          rotate_left 1
          · (intro wS hSw; (try dsimp only at hSw); go_simp; try with_reducible rfl)
          try simp only [List.getElem_toArray, List.getElem_cons_zero, List.getElem_cons_succ, Act.put, List.setIfInBounds_toArray, List.set_cons_zero, List.set_cons_succ]
          refine wpAnyK_ready (rs := [9]) (by kernel_rfl) (by simp) ?_
          refine AllReadyK.cons rfl (fun K hK => ?_) AllReadyK.nil
          go_simp
          skip
          refine shutK hK (⟨(bA.cell (p := ⟨g, at_ * 2 + 1, none⟩) lgc).trans hc1, (bA.cell (p := ⟨wr.heap.size, 0, none⟩) lyc).trans r0⟩) (fun hHeld => ?_)
          clear hK K
          try simp only [List.getElem_toArray, List.getElem_cons_zero, List.getElem_cons_succ, Act.put, List.setIfInBounds_toArray, List.set_cons_zero, List.set_cons_succ]
          refine wpAnyK_ready (rs := [10]) (by kernel_rfl) (by simp) ?_
          refine AllReadyK.cons rfl (fun K hK => ?_) AllReadyK.nil
          refine wp_append_lies _ (.tmp 52) (.tmp 55) 22 (by rfl) W.heap.size 3 i0 (.int .i64 0) 1 8 Tryz.underlying22 HI.out HZ0.out HZ1.out HZ2.out rfl (by decide) (.slice xa xn xc) xi.length (xi.map (Value.int .i64)) (by rfl) hown ⟨wc.heap.size, 0, none⟩ 1 1 [.int .i64 id] (by rfl) rfl hnews hone (by omega) (by unfold maxLen; omega) (by omega) (by simp; omega) (wc.heap.size + 1) (by simp) ?_; intro g5 cap5 w5 hown5 hg5 hat5 hlt5; have cY5 : w5.cell? ⟨g, at_ * 2 + 1, none⟩ = some (.slice xa xn xc) := (hg5.cell_far ⟨g, at_ * 2 + 1, none⟩ (by simp; omega) HOff.out).trans ((bA.cell (p := ⟨g, at_ * 2 + 1, none⟩) lgc).trans hc1); have fY5 : w5.frozen? ⟨g, at_ * 2 + 1, none⟩ = false := (hg5.frozen_far ⟨g, at_ * 2 + 1, none⟩ (by simp; omega) HOff.out).trans ((bA.frozen (p := ⟨g, at_ * 2 + 1, none⟩) lgc).trans hfr)
          refine shutK_off hK (by decide) ?_
          clear hK K
          try simp only [List.getElem_toArray, List.getElem_cons_zero, List.getElem_cons_succ, Act.put, List.setIfInBounds_toArray, List.set_cons_zero, List.set_cons_succ]
          have hrA := (HRow'.out.below bA).add at_ ht g rfl (.slice (some ⟨g5, 0, none⟩) (xi.length + 1) cap5) id _ _ _ rfl (w1 := w5) (by rw [HX.out, List.map_append]; exact hown5) (by rw [HX.out]; exact fun k o hk hko => (hg5.block k (lt_of_blk hko) hk).trans hko)
            ((HWc.out.trans (bA.mono hWz)).grown hg5 (Nat.le_trans hWz bA.size) (fun q hq => ((own_below' HIds.out bA).lt q hq).1)) (by
              rw [HX.out]
              rcases hat5 with h1 | h1
              · exact .inl h1
              · exact .inr (by rw [h1]; simp [Value.ownBlock]))
          have hpm := HP2.out (some ⟨g5, 0, none⟩) (xi.length + 1) cap5
          rw [HX.out] at hrA
          have HRA := Lib.hid hrA; have HPM := Lib.hid hpm
          clear hrA hpm hown5 hg5 hat5 hown hnews hone bA
          refine wpAnyK_ready (rs := [11]) (by kernel_rfl) (by simp) ?_
          refine AllReadyK.cons rfl (fun K hK => ?_) AllReadyK.nil
          go_simp
          skip
          refine shutK_off hK (by decide) ?_
          clear hK K
          try simp only [List.getElem_toArray, List.getElem_cons_zero, List.getElem_cons_succ, Act.put, List.setIfInBounds_toArray, List.set_cons_zero, List.set_cons_succ]
          refine wpAnyK_ready (rs := [12]) (by kernel_rfl) (by simp) ?_
          refine AllReadyK.cons rfl (fun K hK => ?_) AllReadyK.nil
          go_simp
          skip
          refine shutK_off hK (by decide) ?_
          clear hK K
          try simp only [List.getElem_toArray, List.getElem_cons_zero, List.getElem_cons_succ, Act.put, List.setIfInBounds_toArray, List.set_cons_zero, List.set_cons_succ]
          refine wpAnyK_ready (rs := [13]) (by kernel_rfl) (by simp) ?_
          refine AllReadyK.cons rfl (fun K hK => ?_) AllReadyK.nil
          go_simp
          skip
          refine shutK_off hK (by decide) ?_
          clear hK K
          try simp only [List.getElem_toArray, List.getElem_cons_zero, List.getElem_cons_succ, Act.put, List.setIfInBounds_toArray, List.set_cons_zero, List.set_cons_succ]
          refine wpAnyK_done (by kernel_rfl) ?_ _
          refine NoPanic.normal ?_
          go_wp2_with fail
          go_roundw
          case rel =>
            refine ⟨j + 1, C'.set at_ ⟨xh, some ⟨g5, 0, none⟩, xi.length + 1, cap5, xi ++ [id]⟩, by go_num, by omega, by rw [List.length_set]; omega, HRA.out, ?_, ?_, ?_⟩
            · rw [HPM.out]; exact HAsc.out.add _ _
            · refine Lib.hid fun x hx => ?_
              rcases List.mem_or_eq_of_mem_set hx with h1 | h1
              · exact Nat.le_succ_of_le (HLen'.out x h1)
              · rw [h1]; simp; omega
            · exact Lib.hid (by rw [HPM.out]; exact HT3.out)
          case measure => simp [intOf]; omega
    · have hq : decide ((j : Int) < (R.length : Int)) = false := by simp; omega
      obtain rfl : j = R.length := by omega
      have hT := HT.out
      rw [List.drop_length] at hT
      have hT2 : C.map pB = G := hT
      have HT2 := Lib.hid hT2
      clear hT hT2
      go_wp2_with fail
      go_ret
      exact ⟨_, rfl, by rw [← HT2.out]; exact HRow.out.at.move (Nat.le_refl _) (fun x _ hx => ⟨rfl, Nat.le_trans HB0.out.size hx⟩), HB0.out.trans (hbw.mono HB0.out.size)⟩
end Go.Proofs.YtdckkggmmakfiaaGreatDoor
end
section
/- blocking, the program's: Blocks and All of valid block keys and records. -/
set_option linter.unusedSimpArgs false
set_option linter.unusedVariables false
set_option maxRecDepth 100000
namespace Go.Proofs.YtdckkggmmakfiaaGreatDoor
open Go.RowKit
theorem allA_ok {s : SchemaL} : ∀ (R : List RecL) (p : Option Int), allA s p R = 0 → ∀ r ∈ R, checkI s r = 0
  | [], _, _, r, hr => by simp at hr
  | x :: R, p, h, r, hr => by
    unfold allA at h
    split at h
    · next h1 =>
      split at h
      · cases h
      · rcases List.mem_cons.1 hr with rfl | h2
        · exact h1
        · exact allA_ok R _ h r h2
    · next h1 => exact absurd h h1
theorem allN_ok {s : SchemaL} {R : List RecL} (h : allN s R = 0) : checkS s = 0 ∧ R.length ≤ 64 ∧ ∀ r ∈ R, checkN s r = 0 := by
  unfold allN at h
  split at h
  · next h0 =>
    split at h
    · next h1 => exact ⟨h0, h1, fun r hr => by unfold checkN; rw [if_pos h0]; exact allA_ok R none h r hr⟩
    · cases h
  · next h0 => exact absurd h h0
/-- records for blocks: valid, their values short -/
structure RecsOk (s : SchemaL) (R : List RecL) : Prop where
  all : allN s R = 0
  short : ∀ r ∈ R, ∀ x ∈ r.vals, x.length ≤ 64
theorem RecsOk.comps {s : SchemaL} {R : List RecL} (h : RecsOk s R) {K : List (Int × Int)} (hk : KeyOk s.fields K) : ∀ r ∈ R, CompsOk K r.vals :=
  fun r hr => comps_ok hk ((allN_ok h.all).2.2 r hr) (h.short r hr)
theorem RecsOk.vals {s : SchemaL} {R : List RecL} (h : RecsOk s R) (hn : s.fields.length ≤ 1000) : ∀ r ∈ R, r.vals.length ≤ 1000000 := by
  intro r hr
  have := (checkN_ok ((allN_ok h.all).2.2 r hr)).2.2.1
  omega
def Blocks2Post (L : List BkP) (w : World) (e : Ending) (w' : World) : Prop := ∃ v, e = .returned (.tuple #[v, .int .i64 0]) ∧ BlocksAt w' (fun b => w.heap.size ≤ b) v L ∧ Below w.heap.size w w'
set_option maxHeartbeats 4000000 in
theorem bBlocks_yes (S T : Nat → Prop) (vf vt vn vs kv rv : Value) (s : SchemaL) (k : Int × Int) (Ks : List (List (Int × Int))) (i : Nat) (R : List RecL) (w : World) (h : SchemaAt w S vf vt vn vs s) (hk : KeysVec w T kv Ks) (hr : RecsVec w Any1 rv R) (hR : RecsOk s R) (hn : s.fields.length ≤ 1000) (ok : KeysOk s.fields Ks) (hi : i < Ks.length) :
    Calls Tryz.prog 21 #[.agg #[vf, vt, vn, vs], .agg #[.int .u64 k.1, .int .u64 k.2], kv, .int .i64 i, rv] w (Blocks2Post (blocksN k i (Ks.getD i []) R) w) := by
  obtain ⟨ak, ck, rfl⟩ := hk.slice
  obtain ⟨ar, cr, rfl⟩ := hr.slice
  have hc := (allN_ok hR.all).1
  have h64 := (allN_ok hR.all).2.1
  have hkey := ok.key (Ks.getD i []) (by rw [getD_at _ _ hi]; exact List.getElem_mem hi)
  have h8 := ok.len
  obtain ⟨G, hG⟩ : ∃ G, blocksN k i (Ks.getD i []) R = G := ⟨_, rfl⟩
  rw [hG]
  have HS := Lib.hid h; have HK := Lib.hid hk; have HV := Lib.hid hr; have HRO := Lib.hid hR; have HOk := Lib.hid ok; have HC := Lib.hid hc; have HKey := Lib.hid hkey; have HG := Lib.hid hG
  have hck := Lib.hid (show (if i < Ks.length then (0 : Int) else 2) = 0 from if_pos hi)
  have dz : ((0 : Int) != 0) = false := rfl
  have hii : (i : Int) < (Ks.length : Int) := by omega
  clear h hk hr hR ok hc hkey hG
  go_enter Tryz.func21, Tryz.ntmps21
  go_wp2_with fail
  refine wp_calls_world (fun W hW => ?_)
  have hb0 : Below w.heap.size w W := by rw [hW]; exact ((Below.refl w.heap.size w).alloc (Nat.le_refl _) _).alloc (by simp) _
  have hs0 : W.heap[w.heap.size]? = some (.cells #[vf, vt, vn, vs] 33 (0, 0)) := by rw [hW]; exact blk_old (blk_new rfl)
  have hk0 : W.heap[w.heap.size + 1]? = some (.cells #[.int .u64 k.1, .int .u64 k.2] 39 (0, 0)) := by rw [hW]; exact blk_new (by simp)
  clear hW
  refine (bcheck2_any S T _ _ _ _ _ s Ks i W (HS.out.below hb0) (HK.out.below hb0) HC.out (by omega) HOk.out (by omega)).mono ?_
  rw [hck.out]
  rintro e w1 ⟨rfl, hb⟩
  have hs1 := blk_below hb (lt_of_blk hs0) hs0; have hk1 := blk_below hb (lt_of_blk hk0) hk0
  have HB1 := Lib.hid (hb0.trans (hb.mono hb0.size)); have HK1 := Lib.hid hk1
  obtain ⟨s0, s1, s2, s3⟩ := cellsS hs1
  have ls := lt_of_blk hs1
  clear hb hb0 hs0 hk0 hs1 hk1
  go_wp2_with fail
  refine (rall_any S Any1 _ _ _ _ _ s R w1 (HS.out.below HB1.out) (HV.out.below HB1.out) (fun r hr x hx => by have := HRO.out.short r hr x hx; omega) (HRO.out.vals hn) (by omega)).mono ?_
  rw [HRO.out.all]
  rintro e w2 ⟨rfl, hb⟩
  have hk2 := blk_below hb (lt_of_blk HK1.out) HK1.out
  have HB2 := Lib.hid (HB1.out.trans (hb.mono HB1.out.size))
  clear hb s0 s1 s2 s3
  obtain ⟨k0, k1⟩ := cells2K hk2
  have lk := lt_of_blk hk2
  obtain ⟨b, off, c, rfl, lb, c0, hvc⟩ := (HK.out.below HB2.out).at i hi
  obtain ⟨ca, cn, cc⟩ := c
  dsimp only at c0 hvc
  have HVC := Lib.hid hvc
  clear hk2 hvc ls
  go_wp2_with fail
  have bD : Below w2.heap.size w2 w2.drew := (Below.refl _ _).drew
  refine wp_region_noPanic ?_
  refine wp_region_held_drew (S := (fun w' => w'.cell? ⟨w.heap.size + 1, 0, none⟩ = some (.int .u64 k.1) ∧ w'.cell? ⟨w.heap.size + 1, 1, none⟩ = some (.int .u64 k.2) ∧ w'.cell? ⟨b, off + i, none⟩ = some (.slice ca cn cc))) (by kernel_rfl) (⟨k0, k1, c0⟩) (fun hHeld => ?_)
  refine wpAnyH_take (i := 0) (v := ?_) rfl (by kernel_rfl) (by kernel_rfl) (by kernel_rfl) (fun _ _ _ h => h) (Or.inl ⟨by rfl, ?_⟩) (by assumption) ?_
  rotate_left 1
  · (intro wS hSw; (try dsimp only at hSw); go_simp; try with_reducible rfl)
  try simp only [List.getElem_toArray, List.getElem_cons_zero, List.getElem_cons_succ, Act.put, List.setIfInBounds_toArray, List.set_cons_zero, List.set_cons_succ]
  refine wpAnyH_take (i := 1) (v := ?_) rfl (by kernel_rfl) (by kernel_rfl) (by kernel_rfl) (fun _ _ _ h => h) (Or.inl ⟨by rfl, ?_⟩) (by assumption) ?_
  rotate_left 1
  · (intro wS hSw; (try dsimp only at hSw); go_simp; try with_reducible rfl)
  try simp only [List.getElem_toArray, List.getElem_cons_zero, List.getElem_cons_succ, Act.put, List.setIfInBounds_toArray, List.set_cons_zero, List.set_cons_succ]
  refine wpAnyH_take (i := 2) (v := ?_) rfl (by kernel_rfl) (by kernel_rfl) (by kernel_rfl) (fun _ _ _ h => h) (Or.inl ⟨by rfl, ?_⟩) (by assumption) ?_
  rotate_left 1
  · (intro wS hSw; (try dsimp only at hSw); go_simp; try with_reducible rfl)
  try simp only [List.getElem_toArray, List.getElem_cons_zero, List.getElem_cons_succ, Act.put, List.setIfInBounds_toArray, List.set_cons_zero, List.set_cons_succ]
  refine wpAnyH_take (i := 3) (v := ?_) rfl (by kernel_rfl) (by kernel_rfl) (by kernel_rfl) (fun _ _ _ h => h) (Or.inl ⟨by rfl, ?_⟩) (by assumption) ?_
  rotate_left 1
  · (intro wS hSw; (try dsimp only at hSw); go_simp; try with_reducible rfl)
  try simp only [List.getElem_toArray, List.getElem_cons_zero, List.getElem_cons_succ, Act.put, List.setIfInBounds_toArray, List.set_cons_zero, List.set_cons_succ]
  refine wpAnyH_take (i := 4) (v := ?_) rfl (by kernel_rfl) (by kernel_rfl) (by kernel_rfl) (fun _ _ _ h => h) (Or.inl ⟨by rfl, ?_⟩) (by assumption) ?_
  rotate_left 1
  · (intro wS hSw; (try dsimp only at hSw); go_simp; try with_reducible rfl)
  try simp only [List.getElem_toArray, List.getElem_cons_zero, List.getElem_cons_succ, Act.put, List.setIfInBounds_toArray, List.set_cons_zero, List.set_cons_succ]
  refine wpAnyH_take (i := 5) (v := ?_) rfl (by kernel_rfl) (by kernel_rfl) (by kernel_rfl) (fun _ _ _ h => h) (Or.inl ⟨by rfl, ?_⟩) (by assumption) ?_
  rotate_left 1
  · (intro wS hSw; (try dsimp only at hSw); go_simp; try with_reducible rfl)
  try simp only [List.getElem_toArray, List.getElem_cons_zero, List.getElem_cons_succ, Act.put, List.setIfInBounds_toArray, List.set_cons_zero, List.set_cons_succ]
  refine wpAnyH_take (i := 6) (v := ?_) rfl (by kernel_rfl) (by kernel_rfl) (by kernel_rfl) (fun _ _ _ h => h) (Or.inl ⟨by rfl, ?_⟩) (by assumption) ?_
  rotate_left 1
  · (intro wS hSw; (try dsimp only at hSw); go_simp; try with_reducible rfl)
  try simp only [List.getElem_toArray, List.getElem_cons_zero, List.getElem_cons_succ, Act.put, List.setIfInBounds_toArray, List.set_cons_zero, List.set_cons_succ]
  refine wpAnyH_ready (rs := [7]) (by kernel_rfl) (by simp) ?_
  refine AllReadyH.cons rfl (fun K hK => ?_) AllReadyH.nil
  go_simp
  refine (blocks_yes T k _ (Ks.getD i []) i _ R _ (HVC.out.below bD) ((HV.out.below HB2.out).below bD) (HRO.out.vals hn) (HRO.out.comps HKey.out) (by omega) (by omega)).mono ?_; rw [HG.out]; rintro e w3 ⟨v3, rfl, hv3, hb⟩; have b3 := bD.trans hb; have HV3 := Lib.hid hv3; clear hb hv3
  refine hK.out _ _ (⟨(b3.cell (p := ⟨w.heap.size + 1, 0, none⟩) lk).trans k0, (b3.cell (p := ⟨w.heap.size + 1, 1, none⟩) lk).trans k1, (b3.cell (p := ⟨b, off + i, none⟩) lb).trans c0⟩) (fun hHeld => ?_)
  clear hK K
  try simp only [List.getElem_toArray, List.getElem_cons_zero, List.getElem_cons_succ, Act.put, List.setIfInBounds_toArray, List.set_cons_zero, List.set_cons_succ]
  refine wpAnyH_take (i := 8) (v := ?_) rfl (by kernel_rfl) (by kernel_rfl) (by kernel_rfl) (fun _ _ _ h => h) (Or.inl ⟨by rfl, ?_⟩) (by assumption) ?_
  rotate_left 1
  · (intro wS hSw; (try dsimp only at hSw); go_simp; try with_reducible rfl)
  try simp only [List.getElem_toArray, List.getElem_cons_zero, List.getElem_cons_succ, Act.put, List.setIfInBounds_toArray, List.set_cons_zero, List.set_cons_succ]
  refine wpAnyH_take (i := 9) (v := ?_) rfl (by kernel_rfl) (by kernel_rfl) (by kernel_rfl) (fun _ _ _ h => h) (Or.inl ⟨by rfl, ?_⟩) (by assumption) ?_
  rotate_left 1
  · (intro wS hSw; (try dsimp only at hSw); go_simp; try with_reducible rfl)
  try simp only [List.getElem_toArray, List.getElem_cons_zero, List.getElem_cons_succ, Act.put, List.setIfInBounds_toArray, List.set_cons_zero, List.set_cons_succ]
  refine wpAnyH_done (by kernel_rfl) ?_ _
  refine NoPanic.normal ?_
  go_wp2_with fail
  go_ret2
  exact ⟨v3, rfl, HV3.out.move (Nat.le_refl _) (fun x _ hx => ⟨rfl, by have h1 := HB2.out.size; have hx' : w2.heap.size ≤ x := hx; show w.heap.size ≤ x; omega⟩), HB2.out.trans (b3.mono HB2.out.size)⟩
end Go.Proofs.YtdckkggmmakfiaaGreatDoor
end
section
/- Plain: a block key while it is dealt. -/
set_option linter.unusedSimpArgs false
set_option linter.unusedVariables false
namespace Go.Proofs.YtdckkggmmakfiaaGreatDoor
open Go.RowKit
/-- components of fields below j, ascending, each fitting -/
structure KeyD (F : List F2) (j : Nat) (K : List (Int × Int)) : Prop where
  len : K.length ≤ 3
  fit : ∀ c ∈ K, 0 ≤ c.1 ∧ c.1 < j ∧ fitsB c.2 (F.getD c.1.toNat default).2 = true
  asc : ∀ i, i + 1 < K.length → (K.getD i (0, 0)).1 < (K.getD (i + 1) (0, 0)).1
theorem KeyD.nil (F : List F2) : KeyD F 0 [] := ⟨by simp, fun c h => by simp at h, fun i h => by simp at h⟩
theorem KeyD.skip {F : List F2} {j : Nat} {K : List (Int × Int)} (h : KeyD F j K) : KeyD F (j + 1) K := ⟨h.len, fun c hc => by obtain ⟨a, b, d⟩ := h.fit c hc; exact ⟨a, by omega, d⟩, h.asc⟩
theorem getD_snoc {α : Type} (L : List α) (x d : α) (i : Nat) : (L ++ [x]).getD i d = if i < L.length then L.getD i d else if i = L.length then x else d := by
  simp only [List.getD_eq_getElem?_getD, List.getElem?_append]
  split
  · rfl
  · next h =>
    split
    · next h2 => subst h2; simp
    · next h2 =>
      have : (([x] : List α)[i - L.length]?) = none := by rw [List.getElem?_eq_none_iff]; simp; omega
      rw [this]; rfl
theorem KeyD.snoc {F : List F2} {j : Nat} {K : List (Int × Int)} {t : Int} (h : KeyD F j K) (hl : K.length < 3) (ht : fitsB t (F.getD j default).2 = true) : KeyD F (j + 1) (K ++ [((j : Int), t)]) := by
  refine ⟨by simp; omega, fun c hc => ?_, fun i hi => ?_⟩
  · rcases List.mem_append.1 hc with h1 | h1
    · obtain ⟨a, b, d⟩ := h.fit c h1
      exact ⟨a, by omega, d⟩
    · simp at h1; subst h1
      exact ⟨by simp, by simp only [Int.natCast_add]; omega, by simpa using ht⟩
  · rw [getD_snoc, getD_snoc]
    simp only [List.length_append, List.length_cons, List.length_nil] at hi
    by_cases h1 : i + 1 < K.length
    · rw [if_pos (by omega), if_pos h1]; exact h.asc i h1
    · have h2 : i + 1 = K.length := by omega
      rw [if_pos (by omega), if_neg h1, if_pos h2]
      have hm : K.getD i (0, 0) ∈ K := by rw [List.getD, List.getElem?_eq_getElem (by omega)]; exact List.getElem_mem _
      exact (h.fit _ hm).2.1
theorem orderC_lt {a b : Int × Int} (h : a.1 < b.1) : orderC a b < 0 := by
  have e : cmp3 a.1 b.1 = -1 := by unfold cmp3; rw [if_pos h]
  unfold orderC orN
  rw [e, if_neg (by decide)]; decide
theorem KeyD.ok {F : List F2} {K : List (Int × Int)} (h : KeyD F F.length K) (h1 : 1 ≤ K.length) : KeyOk F K :=
  ⟨h1, h.len, h.fit, fun i hi => orderC_lt (h.asc i hi)⟩
theorem key_whole {F : List F2} (h : 1 ≤ F.length) : KeyOk F [(0, 1)] :=
  ⟨by simp, by simp, fun c hc => by simp at hc; subst hc; exact ⟨by simp, by simp; omega, rfl⟩, fun i hi => by simp at hi⟩
/-- the transforms that the deal knows fit -/
theorem fits_plain {k : Int} : fitsB 1 k = true ∧ fitsB 3 k = true := ⟨rfl, rfl⟩
def ownT (k : Int) : Int := if k = 1 then 2 else if k = 2 then 4 else if k = 3 then 1 else if k = 4 then 5 else 0
theorem fits_own {k : Int} (h : 1 ≤ k ∧ k ≤ 4) : fitsB (ownT k) k = true := by
  rcases (by omega : k = 1 ∨ k = 2 ∨ k = 3 ∨ k = 4) with rfl | rfl | rfl | rfl <;> rfl
end Go.Proofs.YtdckkggmmakfiaaGreatDoor
end
section
/- The deck deals a date: a year from 1800 to 2199, a month from 0 to 13, a day from 1 to 32. -/
set_option linter.unusedSimpArgs false
set_option linter.unusedVariables false
namespace Go.Proofs.YtdckkggmmakfiaaGreatDoor
open Go.RowKit
def DatePost (D : Nat) (w : World) (e : Ending) (w' : World) : Prop :=
  ∃ y m d : Int, e = .returned (.agg #[.int .i64 y, .int .i64 m, .int .i64 d]) ∧ (1800 ≤ y ∧ y ≤ 2199 ∧ 0 ≤ m ∧ m ≤ 13 ∧ 1 ≤ d ∧ d ≤ 32) ∧ Moved D w w'
theorem deck_law {w w1 : World} {a : Option Addr} {n cap : Nat} {zs : List Int} (hn : n ≤ 400) (hr : IsRow .i64 w a n cap zs) (hb : Below w.heap.size w w1) :
    DeckAt (w1.alloc (.cells #[.slice a n cap, .int .i64 0, .int .u64 11400714819323198485] 71)) w1.heap.size :=
  deck_new hn fun h0 => by
    obtain ⟨b, off, e1, e2, e3⟩ := hr.read h0
    exact ⟨b, off, e1, Nat.lt_of_lt_of_le e2 hb.size, fun i hi => by obtain ⟨x, hx⟩ := e3 i hi; exact ⟨x, (hb.cell (p := ⟨b, off + i, none⟩) e2).trans hx⟩⟩
end Go.Proofs.YtdckkggmmakfiaaGreatDoor
end
section
/- recordlinkmake: Schema: the walk. -/
set_option linter.unusedSimpArgs false
set_option linter.unusedVariables false
set_option maxRecDepth 100000
namespace Go.Proofs.YtdckkggmmakfiaaGreatDoor
open Go.RowKit
attribute [local go_sem] toList_mk mk_size str_append
def kindsD : List Int := [1, 1, 2, 4, 3]
theorem kindsD_bd (k : Nat) (hk : k < 5) : 1 ≤ kindsD.getD k 0 ∧ kindsD.getD k 0 ≤ 4 := by
  have : ∀ j : Fin 5, 1 ≤ kindsD.getD j 0 ∧ kindsD.getD j 0 ≤ 4 := by decide
  exact this ⟨k, hk⟩
theorem kinds_cell {w : World} {b : Nat} (h : w.heap[b]? = some (.cells (kindsD.map (Value.int .i64)).toArray 3 (0, 0))) (k : Nat) (hk : k < 5) : w.cell? ⟨b, k, none⟩ = some (.int .i64 (kindsD.getD k 0)) := by
  rw [cell_of_row _ _ _ _ _ _ h, List.getElem?_toArray, List.getElem?_map]
  have : k < kindsD.length := hk
  rw [List.getD, List.getElem?_eq_getElem this]; rfl
set_option maxHeartbeats 8000000 in
theorem schema_deal (D : Nat) (w : World) (h : DeckAt w D) :
    Calls Tryz.prog 10 #[.pointer (some ⟨D, 0, none⟩)] w (SchemaPost D w) := by
  have zD := h.lt
  have M0 := Lib.hid (Moved.start h); clear h
  go_enter Tryz.func10, Tryz.ntmps10
  go_wp2_with fail
  refine (rules_deal D _ (M0.out.alloc _).deck).mono ?_
  rintro e w1 ⟨vt, vn, vs, r, rfl, hr, hd, mv⟩
  obtain ⟨at', ct, rfl⟩ := hr.1.slice
  obtain ⟨an, cn, rfl⟩ := hr.2.1.slice
  obtain ⟨as', cs, rfl⟩ := hr.2.2.slice
  have zw : w.heap.size < w1.heap.size := by have := mv.size; simp at this; omega
  have X1 := Lib.hid (show w1.heap[w.heap.size]? = some (.cells nil4 33 (0, 0)) from mv.blk (by omega) (blk_new rfl))
  have M1 := Lib.hid ((M0.out.alloc _).trans mv)
  have HR := Lib.hid hr; have HRD := Lib.hid hd
  clear hr hd mv
  go_wp2_with fail
  have K0 := Lib.hid (show SMid D w w1.heap.size (.slice at' r.titles.length ct) (.slice an r.nicks.length cn) (.slice as' r.streets.length cs) r (.slice none 0 0) [] ((w1.alloc (.cells #[.slice none 0 0, .slice at' r.titles.length ct, .slice an r.nicks.length cn, .slice as' r.streets.length cs] 33)).alloc (.cells (namesD.flatMap encS).toArray 9)) from
    ⟨blk_old (blk_old X1.out), blk_old (blk_new rfl), blk_new (by simp), ⟨rfl, .inl ⟨rfl, rfl⟩⟩, by
      have hb : Below w1.heap.size w1 ((w1.alloc (.cells #[.slice none 0 0, .slice at' r.titles.length ct, .slice an r.nicks.length cn, .slice as' r.streets.length cs] 33)).alloc (.cells (namesD.flatMap encS).toArray 9)) := ((Below.refl _ _).alloc (Nat.le_refl _) _).alloc (by simp) _
      have mvv : ∀ b, b < w1.heap.size → (w.alloc (.cells nil4 33)).heap.size ≤ b → _ ∧ (w.heap.size < b ∧ b < w1.heap.size) := fun b h1 h2 => ⟨hb.block b h1, by simp at h2; omega, h1⟩
      exact ⟨HR.out.1.move hb.size mvv, HR.out.2.1.move hb.size mvv, HR.out.2.2.move hb.size mvv⟩, FieldsD.nil, (M1.out.alloc _).alloc _, zw⟩)
  refine (next_any D _ 4 K0.out.moved.deck (by omega) (by omega)).mono ?_
  rintro e w2 ⟨q, rfl, q0, q1, mv⟩
  obtain ⟨q, rfl⟩ := Int.eq_ofNat_of_zero_le q0
  have K1 := Lib.hid (K0.out.gone zD mv)
  clear mv K0 X1 M1 HR M0
  go_wp2_with fail
  go_loopw [6] (fun i wr => ∃ (k : Nat) (F : List F2) (vf : Value), i = .int .i64 k ∧ k ≤ 1 + q ∧ F.length = k ∧ SMid D w w1.heap.size (.slice at' r.titles.length ct) (.slice an r.nicks.length cn) (.slice as' r.streets.length cs) r vf F wr) (fun i _ => 1 + q - (intOf i).toNat)
  case atStart => exact ⟨0, [], _, rfl, by omega, rfl, K1.out⟩
  case round =>
    obtain ⟨k, F, vf, rfl, hk, hF, hm⟩ := hrel
    have HF := Lib.hid hF; have KM := Lib.hid hm
    clear hm hF K1
    by_cases hlt : k < 1 + q
    · have hq : decide ((k : Int) < 1 + q) = true := by simp; omega
      have hix : (k : Int) < 5 := by omega
      have hc : (wr.alloc (.cells #[.int .i64 1, .int .i64 1, .int .i64 2, .int .i64 4, .int .i64 3] 3)).cell? ⟨wr.heap.size, k, none⟩ = _ := kinds_cell (w := wr.alloc (.cells (kindsD.map (Value.int .i64)).toArray 3)) (b := wr.heap.size) (blk_new rfl) k (by omega)
      obtain ⟨kb1, kb2⟩ := kindsD_bd k (by omega)
      obtain ⟨kd, hkd⟩ : ∃ kd, kindsD.getD k 0 = kd := ⟨_, rfl⟩
      rw [hkd] at hc kb1 kb2
      clear hkd
      go_wp2_with fail
      refine (one_any D _ 4 (KM.out.moved.alloc _).deck (by omega) (by omega)).mono ?_
      rintro e w3 ⟨u, rfl, mv⟩
      have KN := Lib.hid (KM.out.gone zD (((Moved.start KM.out.moved.deck).alloc _).trans mv))
      clear hc mv
      go_upto_if 25 with (fail)
      go_cut [7] (fun s7 wx => ∃ kd : Int, s7 = .int .i64 kd ∧ 1 ≤ kd ∧ kd ≤ 4 ∧ SMid D w w1.heap.size (.slice at' r.titles.length ct) (.slice an r.nicks.length cn) (.slice as' r.streets.length cs) r vf F wx)
      case first =>
        cases u
        · go_wp2_with fail
          go_meet
          exact ⟨kd, rfl, kb1, kb2, KN.out⟩
        · go_wp2_with fail
          refine (next_any D _ 4 KN.out.moved.deck (by omega) (by omega)).mono ?_
          rintro e w4 ⟨p, rfl, p0, p1, mv⟩
          have KO := Lib.hid (KN.out.gone zD mv)
          clear mv
          go_wp2_with fail
          go_meet
          exact ⟨1 + p, rfl, by omega, by omega, KO.out⟩
      case rest =>
        obtain ⟨kx, rfl, kx1, kx2, hm⟩ := hcut
        have KX := Lib.hid hm
        clear hm KM KN kb1 kb2
        obtain ⟨av, cv, hav⟩ := own_slice KX.out.own
        rw [HF.out] at hav
        subst hav
        have cY := (cells4 KX.out.s).1
        have cN := KX.out.n.cell k (by show k < 5; omega)
        have zY := lt_of_blk KX.out.n
        have zY0 : w1.heap.size < wc.heap.size := by omega
        obtain ⟨nm, hnm⟩ : ∃ nm, namesD.getD k [] = nm := ⟨_, rfl⟩
        rw [hnm] at cN
        have HNM := Lib.hid hnm; clear hnm
        go_wp2_with fail
        have hown := own_below KX.out.own (((Below.refl _ _).alloc (Nat.le_refl _) (.cells #[strV nm, .int .i64 kx] 66)).drew)
        have hnews : ∀ j u, [strV nm, Value.int .i64 kx][j]? = some u → ((wc.alloc (.cells #[strV nm, .int .i64 kx] 66)).drew).cell? ((⟨wc.heap.size, 0, none⟩ : Addr).add j) = some u := fun j u hu => by
          rw [add_plain, World.cell?_drew, cell_of_row _ _ _ _ _ _ (heap_alloc_new wc _), Nat.zero_add]; simpa using hu
        have hone : ∀ u ∈ [strV nm, Value.int .i64 kx], u.oneCell' = true := by intro u hu; simp at hu; rcases hu with rfl | rfl <;> rfl
        obtain ⟨i0, hi, hz0, hz1, hz2⟩ := info_parts infoF
        have hbA := ((Below.refl _ wc).alloc (Nat.le_refl _) (.cells #[strV nm, .int .i64 kx] 66)).drew
        have HBA := Lib.hid hbA; have HOwn := Lib.hid hown; have HNews := Lib.hid hnews; have HOne := Lib.hid hone; have HI := Lib.hid hi; have HZ0 := Lib.hid hz0; have HZ1 := Lib.hid hz1; have HZ2 := Lib.hid hz2
        have fY := (frozen_of_row _ _ _ _ _ KX.out.s : wc.frozen? ⟨w1.heap.size, 0, none⟩ = false)
        clear hbA hown hnews hone hi hz0 hz1 hz2
        rw [HF.out] at HOwn
        go_region_law (((refine step_append_lies _ rfl (.tmp 30) (.tmp 37) 27 (by rfl) (w1.heap.size + 2) 66 i0 (.agg #[.string ⟨#[]⟩, .int .i64 0]) 2 24 Tryz.underlying27 HI.out HZ0.out HZ1.out HZ2.out rfl (by decide) (.slice av k cv) k (F.flatMap encF) (by rfl) HOwn.out ⟨wc.heap.size, 0, none⟩ 1 1 [strV nm, .int .i64 kx] (by rfl) rfl HNews.out HOne.out (by omega) (by unfold maxLen; omega) (by omega) (by simp; omega) (wc.heap.size + 1) (by simp) ?_); intro g cap w5 hown5 hg5 hat5 hlt5; have cY5 := (hg5.cell_far ⟨w1.heap.size, 0, none⟩ (by simp; omega) (own_far HOwn.out (by show w1.heap.size < _; omega))).trans ((HBA.out.cell (p := ⟨w1.heap.size, 0, none⟩) (by show w1.heap.size < _; omega)).trans cY); have fY5 := (hg5.frozen_far ⟨w1.heap.size, 0, none⟩ (by simp; omega) (own_far HOwn.out (by show w1.heap.size < _; omega))).trans ((HBA.out.frozen (p := ⟨w1.heap.size, 0, none⟩) (by show w1.heap.size < _; omega)).trans fY)))
        all_goals
          have hfd := KX.out.fields.snoc (by rw [HF.out]; omega) kx1 kx2
          rw [HF.out, HNM.out] at hfd
          have hown6 := hown5
          rw [show F.flatMap encF ++ [strV nm, .int .i64 kx] = F.flatMap encF ++ encF (nm, kx) from rfl, ← HF.out] at hown6
          have KS := Lib.hid (KX.out.step (x := (nm, kx)) zD HBA.out hg5 hown6 hfd)
          rw [HF.out] at KS
          clear hfd hown6 hown5 hg5 hat5 cY5 fY5
          go_wp2_with fail
          go_roundw
          case rel => exact ⟨k + 1, F ++ [(nm, kx)], _, by go_num, by omega, by rw [List.length_append, HF.out]; rfl, KS.out⟩
          case measure => simp [intOf]; omega
    · have hq : decide ((k : Int) < 1 + q) = false := by simp; omega
      obtain ⟨av, cv, hav⟩ := own_slice KM.out.own
      subst hav
      have HZ := Lib.hid KM.out.z
      have HM := Lib.hid KM.out.moved
      have HR := Lib.hid KM.out.rules
      have HO := Lib.hid KM.out.own
      have HFd := Lib.hid KM.out.fields
      obtain ⟨c0, c1, c2, c3⟩ := cells4 KM.out.s
      obtain ⟨d0, d1, d2, d3⟩ := cells4 KM.out.z
      have g0 := (frozen_of_row _ _ _ _ _ KM.out.z : wr.frozen? ⟨w.heap.size, 0, none⟩ = false)
      have g1 := (frozen_of_row _ _ _ _ _ KM.out.z : wr.frozen? ⟨w.heap.size, 1, none⟩ = false)
      have g2 := (frozen_of_row _ _ _ _ _ KM.out.z : wr.frozen? ⟨w.heap.size, 2, none⟩ = false)
      have g3 := (frozen_of_row _ _ _ _ _ KM.out.z : wr.frozen? ⟨w.heap.size, 3, none⟩ = false)
      have z0 := lt_of_blk KM.out.z
      have z1 := lt_of_blk KM.out.s
      clear KM
      go_wp2_with fail
      have hz := (blk_set (i := 3) (v := (.slice as' r.streets.length cs)) (blk_set (i := 2) (v := (.slice an r.nicks.length cn)) (blk_set (i := 1) (v := (.slice at' r.titles.length ct)) (blk_set (i := 0) (v := (.slice av F.length cv)) HZ.out))))
      have hm := ((((HM.out.set (a := ⟨w.heap.size, 0, none⟩) (Nat.le_refl _) (.slice av F.length cv)).set (a := ⟨w.heap.size, 1, none⟩) (Nat.le_refl _) (.slice at' r.titles.length ct)).set (a := ⟨w.heap.size, 2, none⟩) (Nat.le_refl _) (.slice an r.nicks.length cn)).set (a := ⟨w.heap.size, 3, none⟩) (Nat.le_refl _) (.slice as' r.streets.length cs))
      have hv := (((((Vec.owns (k := 2) (enc := encF) (S := fun b => w.heap.size < b) (fun _ => rfl) HO.out (fun b h1 _ => by omega)).set1 (a := ⟨w.heap.size, 0, none⟩) (fun b h => Nat.ne_of_gt h) (.slice av F.length cv)).set1 (a := ⟨w.heap.size, 1, none⟩) (fun b h => Nat.ne_of_gt h) (.slice at' r.titles.length ct)).set1 (a := ⟨w.heap.size, 2, none⟩) (fun b h => Nat.ne_of_gt h) (.slice an r.nicks.length cn)).set1 (a := ⟨w.heap.size, 3, none⟩) (fun b h => Nat.ne_of_gt h) (.slice as' r.streets.length cs))
      have ht := (((((HR.out.1.weaken (S' := fun b => w.heap.size < b) fun b h => h.1).set1 (a := ⟨w.heap.size, 0, none⟩) (fun b h => Nat.ne_of_gt h) (.slice av F.length cv)).set1 (a := ⟨w.heap.size, 1, none⟩) (fun b h => Nat.ne_of_gt h) (.slice at' r.titles.length ct)).set1 (a := ⟨w.heap.size, 2, none⟩) (fun b h => Nat.ne_of_gt h) (.slice an r.nicks.length cn)).set1 (a := ⟨w.heap.size, 3, none⟩) (fun b h => Nat.ne_of_gt h) (.slice as' r.streets.length cs))
      have hn := (((((HR.out.2.1.weaken (S' := fun b => w.heap.size < b) fun b h => h.1).set1 (a := ⟨w.heap.size, 0, none⟩) (fun b h => Nat.ne_of_gt h) (.slice av F.length cv)).set1 (a := ⟨w.heap.size, 1, none⟩) (fun b h => Nat.ne_of_gt h) (.slice at' r.titles.length ct)).set1 (a := ⟨w.heap.size, 2, none⟩) (fun b h => Nat.ne_of_gt h) (.slice an r.nicks.length cn)).set1 (a := ⟨w.heap.size, 3, none⟩) (fun b h => Nat.ne_of_gt h) (.slice as' r.streets.length cs))
      have hs := (((((HR.out.2.2.weaken (S' := fun b => w.heap.size < b) fun b h => h.1).set1 (a := ⟨w.heap.size, 0, none⟩) (fun b h => Nat.ne_of_gt h) (.slice av F.length cv)).set1 (a := ⟨w.heap.size, 1, none⟩) (fun b h => Nat.ne_of_gt h) (.slice at' r.titles.length ct)).set1 (a := ⟨w.heap.size, 2, none⟩) (fun b h => Nat.ne_of_gt h) (.slice an r.nicks.length cn)).set1 (a := ⟨w.heap.size, 3, none⟩) (fun b h => Nat.ne_of_gt h) (.slice as' r.streets.length cs))
      have hw : ∀ b, w.heap.size < b → w.heap.size ≤ b := fun b h => Nat.le_of_lt h
      have hF1 : 1 ≤ F.length := by have := HF.out; omega
      exact bodyPost_row1 rfl rfl hz Tryz.underlying33 rfl (by kernel_rfl) ⟨_, _, _, _, ⟨F, r⟩, rfl, ⟨hv.weaken hw, ht.weaken hw, hn.weaken hw, hs.weaken hw⟩, ⟨HFd.out, hF1, HRD.out⟩, hm⟩
end Go.Proofs.YtdckkggmmakfiaaGreatDoor
end
section
/- What the laws that deal a schema share: where they stand behind it. -/
set_option linter.unusedSimpArgs false
set_option linter.unusedVariables false
set_option maxRecDepth 100000
namespace Go.Proofs.YtdckkggmmakfiaaGreatDoor
open Go.RowKit Cal
attribute [local go_sem] toList_mk mk_size str_append
theorem SchemaAt.moved {D : Nat} {w w' : World} {S : Nat → Prop} {vf vt vn vs : Value} {s : SchemaL} (h : SchemaAt w S vf vt vn vs s) (hS : ∀ b, S b → b ≠ D) (m : Moved D w w') : SchemaAt w' S vf vt vn vs s :=
  have mv : ∀ b, b < w.heap.size → S b → w'.heap[b]? = w.heap[b]? ∧ S b := fun b hb hs => ⟨m.grown.block b hb (by have := hS b hs; simp; omega), hs⟩
  ⟨h.1.move m.size mv, h.2.1.move m.size mv, h.2.2.1.move m.size mv, h.2.2.2.move m.size mv⟩
theorem fields_cell {w : World} {S : Nat → Prop} {a : Option Addr} {n cap : Nat} {F : List F2} (h : Vec w S 2 encF (.slice a n cap) F) (h0 : 0 < F.length) : ∃ b off, a = some ⟨b, off, none⟩ ∧ S b ∧ b < w.heap.size ∧ ∀ j, j < F.length → w.cell? ⟨b, off + j * 2 + 1, none⟩ = some (.int .i64 (F.getD j default).2) := by
  obtain ⟨b, off, e, hS, hb, hc⟩ := vec_cell2 h h0
  exact ⟨b, off, e, hS, hb, fun j hj => hc j hj 1 _ rfl⟩
/-- where a law stands that has dealt a schema: the deck in block D, the schema in block y, the kind of a field in cell o of block b -/
structure Drawn (D : Nat) (w : World) (y : Nat) (S : Nat → Prop) (vf vt vn vs : Value) (s : SchemaL) (b o : Nat) (kf : Int) (wr : World) : Prop where
  m : Moved D w wr
  x : wr.heap[y]? = some (.cells #[vf, vt, vn, vs] 33 (0, 0))
  s : SchemaAt wr S vf vt vn vs s
  c : wr.cell? ⟨b, o, none⟩ = some (.int .i64 kf)
  ne : ∀ b, S b → b ≠ D
  yD : y ≠ D
  bD : b ≠ D
theorem Drawn.moved {D : Nat} {w : World} {y : Nat} {S : Nat → Prop} {vf vt vn vs : Value} {s : SchemaL} {b o : Nat} {kf : Int} {wr wd : World} (h : Drawn D w y S vf vt vn vs s b o kf wr) (m : Moved D wr wd) : Drawn D w y S vf vt vn vs s b o kf wd :=
  ⟨h.m.trans m, m.blk h.yD h.x, h.s.moved h.ne m, (World.cell?_of_block (w := wr) (a := ⟨b, o, none⟩) (m.grown.block b (World.block_lt_of_cell? _ ⟨b, o, none⟩ h.c) (by have := h.bD; simp; omega))).trans h.c, h.ne, h.yD, h.bD⟩
theorem Drawn.below {D : Nat} {w : World} {y : Nat} {S : Nat → Prop} {vf vt vn vs : Value} {s : SchemaL} {b o : Nat} {kf : Int} {wr wd : World} (h : Drawn D w y S vf vt vn vs s b o kf wr) (hb : Below wr.heap.size wr wd) : Drawn D w y S vf vt vn vs s b o kf wd :=
  h.moved ((Moved.start h.m.deck).below hb)
theorem Drawn.held {D : Nat} {w : World} {y : Nat} {S : Nat → Prop} {vf vt vn vs : Value} {s : SchemaL} {b o : Nat} {kf : Int} {wr : World} (h : Drawn D w y S vf vt vn vs s b o kf wr) :
    wr.cell? ⟨y, 0, none⟩ = some vf ∧ wr.cell? ⟨y, 1, none⟩ = some vt ∧ wr.cell? ⟨y, 2, none⟩ = some vn ∧ wr.cell? ⟨y, 3, none⟩ = some vs ∧ wr.cell? ⟨b, o, none⟩ = some (.int .i64 kf) := by
  obtain ⟨p0, p1, p2, p3⟩ := cells4 h.x
  exact ⟨p0, p1, p2, p3, h.c⟩
end Go.Proofs.YtdckkggmmakfiaaGreatDoor
end
