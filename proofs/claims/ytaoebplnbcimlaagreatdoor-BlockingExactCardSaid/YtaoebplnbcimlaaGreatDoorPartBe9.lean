/- Parts of one proof: RefBlkD, RefBlkE, RefBlkF, RefBlkG, Tail, RefBlkH, RefBlkI, RefBlkJ, RefBlkK, RefBlkL, RefBlkM, RefBlkN, RefBlkO, EShort, LawD, BexA, BexLoop. -/
import Derived.Test.YtaoebplnbcimlaaGreatDoorPartBe8
set_option linter.unusedSimpArgs false
set_option linter.unusedVariables false
namespace Go.Proofs.YtaoebplnbcimlaaGreatDoor
section
set_option maxRecDepth 100000
open Go.RowKit
attribute [local go_sem] toList_mk mk_size str_append
theorem has_snoc (L : List (List UInt8)) (y : List UInt8) : hasB (L ++ [y]) [] = (hasB L [] || (y == [])) := by unfold hasB; simp
theorem part_is {s : SchemaL} {K : List (Int × Int)} {r : RecL} (hr : checkN s r = 0) (h : KeyOk s.fields K) {n : Nat} (hn : n < K.length) : partX s K[n] r = compN r.vals K[n] := by
  obtain ⟨h1, h2, h3⟩ := h.fit K[n] (List.getElem_mem hn)
  unfold partX
  rw [if_pos ⟨hr, by unfold rightC; rw [decide_eq_true h1, decide_eq_true h2, h3]; rfl⟩]
set_option maxHeartbeats 16000000 in
theorem rhash_yes (S T : Nat → Prop) (vf vt vn vs kv : Value) (s : SchemaL) (k : Int × Int) (Ks : List (List (Int × Int))) (i : Nat) (r : RecL) (sv : Value) (w : World) (h : SchemaAt w S vf vt vn vs s) (hk : KeysVec w T kv Ks) (hv : Vec w Any1 1 encS sv r.vals) (hr : checkN s r = 0) (hn : s.fields.length ≤ 1000) (ok : KeysOk s.fields Ks) (hi : i < Ks.length) :
    Calls Tryz.prog 59 #[.agg #[vf, vt, vn, vs], .agg #[.int .u64 k.1, .int .u64 k.2], kv, .int .i64 i, .agg #[.int .i64 r.id, .int .i64 r.ver, sv]] w fun e w' => e = .returned (.tuple #[.int .u64 (bhashN k i ((Ks.getD i []).map (compN r.vals))).1, .bool (bhashN k i ((Ks.getD i []).map (compN r.vals))).2]) ∧ Below w.heap.size w w' := by
  obtain ⟨ak, ck, rfl⟩ := hk.slice
  obtain ⟨av, cv, rfl⟩ := hv.slice
  have hi10 : i < 10 := by have := ok.len; omega
  have hkey : KeyOk s.fields (Ks.getD i []) := ok.key _ (by rw [getD_at _ _ hi]; exact List.getElem_mem hi)
  obtain ⟨K, hK⟩ : ∃ K, Ks.getD i [] = K := ⟨_, rfl⟩
  rw [hK] at hkey ⊢
  have hsh := check_short hr
  have hco := comps_ok hkey hr hsh
  obtain ⟨L, hL⟩ : ∃ L, K.map (compN r.vals) = L := ⟨_, rfl⟩
  have hLl : L.length = K.length := by rw [← hL]; simp
  have hLs : ∀ x ∈ L, x.length ≤ 60000 := by rw [← hL]; intro x hx; obtain ⟨c, hc, rfl⟩ := List.mem_map.1 hx; exact hco.short c hc
  have hK3 := hkey.len2
  obtain ⟨⟨h0, b0⟩, hR⟩ : ∃ R, bhashN k i L = R := ⟨_, rfl⟩
  rw [hL, hR]
  obtain ⟨M, hM⟩ : ∃ M, r.vals.length = M := ⟨_, rfl⟩
  have hM6 : r.vals.length ≤ 1000000 := by have h1 := (checkN_ok hr).2.2.1; omega
  have HM6 := Lib.hid hM6
  have HS := Lib.hid h; have HKv := Lib.hid hk; have HV := Lib.hid hv; have HRc := Lib.hid hr; have HKey := Lib.hid hkey; have HKd := Lib.hid hK; have HL := Lib.hid hL; have HLl := Lib.hid hLl; have HLs := Lib.hid hLs; have HR := Lib.hid hR; have HM := Lib.hid hM
  rw [hM]
  have HPart := Lib.hid (show ∀ W, Below w.heap.size w W → ∀ n (hn : n < K.length), Calls Tryz.prog 26 #[.agg #[vf, vt, vn, vs], .agg #[.int .i64 K[n].1, .int .i64 K[n].2], .agg #[.int .i64 r.id, .int .i64 r.ver, .slice av M cv]] W fun e w' => e = .returned (strV (compN r.vals K[n])) ∧ Below W.heap.size W w' from fun W hb n hnK => by
    have h1 := rpart_any S vf vt vn vs s K[n] r (.slice av r.vals.length cv) W (HS.out.below hb) (HV.out.below hb) (fun x hx => by have := check_short HRc.out x hx; omega) HM6.out hn
    rw [part_is HRc.out HKey.out hnK, HM.out] at h1
    exact h1)
  obtain ⟨rid, rver, vals⟩ := r
  dsimp only at HV HPart HL HM ⊢
  clear h hk hv hr ok hkey hK hL hLl hLs hR hM hsh hco hM6 HM6
  go_enter Tryz.func59, Tryz.ntmps59
  go_wp2_with fail
  refine wp_world (fun W hW => ?_)
  have hb0 : Below w.heap.size w W := by rw [hW]; exact (((Below.refl w.heap.size w).alloc (Nat.le_refl _) _).alloc (by simp) _).alloc (by simp; omega) _
  have hs0 : W.heap[w.heap.size]? = some (.cells #[vf, vt, vn, vs] 43 (0, 0)) := by rw [hW]; exact blk_old (blk_old (blk_new rfl))
  have hk0 : W.heap[w.heap.size + 1]? = some (.cells #[.int .u64 k.1, .int .u64 k.2] 26 (0, 0)) := by rw [hW]; exact blk_old (blk_new (by simp))
  have hr0 : W.heap[w.heap.size + 2]? = some (.cells #[.int .i64 rid, .int .i64 rver, .slice av M cv] 29 (0, 0)) := by rw [hW]; exact blk_new (by simp)
  clear hW
  have HB0 := Lib.hid hb0; have HS0 := Lib.hid hs0; have HK0 := Lib.hid hk0; have HR0 := Lib.hid hr0
  clear hb0 hs0 hk0 hr0
  go_loopw [12, 13] (fun v j wr => ∃ n : Nat, j = .int .i64 n ∧ n ≤ K.length ∧ OwnV 9 1 encS W v (L.take n) wr ∧ Hid (hasB (L.take n) [] = false)) (fun _ j _ => K.length - (intOf j).toNat)
  case atStart => exact ⟨0, rfl, by omega, OwnV.start _ _ _ _, Lib.hid rfl⟩
  case round =>
    obtain ⟨n, rfl, hnK, ho, HHas⟩ := hrel
    obtain ⟨P, hP⟩ : ∃ P, L.take n = P := ⟨_, rfl⟩
    have hPl : P.length ≤ 3 := by rw [← hP, List.length_take]; omega
    rw [hP] at ho HHas
    have HP := Lib.hid hP
    have HO := Lib.hid ho
    obtain ⟨ao, co, rfl⟩ := own_slice ho.1
    have hbw := ho.2
    clear ho hP
    have HBW := Lib.hid hbw
    have hbw0 := HB0.out.trans (hbw.mono HB0.out.size)
    have HBW0 := Lib.hid hbw0
    have hji : (i : Int) < (Ks.length : Int) := by omega
    obtain ⟨b, off, c, rfl, lb, c0, hvK⟩ := (HKv.out.below hbw0).at i hi
    rw [HKd.out] at hvK
    obtain ⟨ca, cn, cc⟩ := c
    dsimp only at c0 hvK
    have hcn := hvK.len.1
    subst hcn
    by_cases hlt : n < K.length
    · have hq : decide ((n : Int) < (K.length : Int)) = true := by simp; omega
      have hni : (n : Int) < (K.length : Int) := by omega
      obtain ⟨b2, off2, rfl, lb2, hc⟩ := hvK.get n hlt
      have k0 := hc 0 _ rfl; have k1 := hc 1 _ rfl
      rw [Nat.add_zero] at k0
      have hnL : n < L.length := by rw [HLl.out]; exact hlt
      obtain ⟨y, hy⟩ : ∃ y, compN vals K[n] = y := ⟨_, rfl⟩
      have hxy : L[n] = y := by rw [← hy]; simp only [← HL.out, List.getElem_map]
      have hts : L.take (n + 1) = P ++ [y] := by rw [List.take_succ_eq_append_getElem hnL, hxy, HP.out]
      have hcall := fun W' (hb : Below wr.heap.size wr W') => HPart.out W' (HBW0.out.trans (hb.mono HBW0.out.size)) n hlt
      rw [hy] at hcall
      obtain ⟨⟨f, t⟩, hx⟩ : ∃ x, K[n] = x := ⟨_, rfl⟩
      rw [hx] at k0 k1 hcall
      dsimp only at k0 k1 hcall
      have cP := in_regrown wr hcall
      have HTs := Lib.hid hts; have HXy := Lib.hid hxy
      obtain ⟨s0, s1, s2, s3⟩ := cellsS (blk_below hbw (lt_of_blk HS0.out) HS0.out); obtain ⟨r0, r1, r2⟩ := cells3 (blk_below hbw (lt_of_blk HR0.out) HR0.out)
      have p0 := cell_regrown s0; have p1 := cell_regrown s1; have p2 := cell_regrown s2; have p3 := cell_regrown s3; have p4 := cell_regrown r0; have p5 := cell_regrown r1; have p6 := cell_regrown r2; have p7 := cell_regrown k0; have p8 := cell_regrown k1; have p9 := cell_regrown c0
      clear hc hcall hx hts hxy hy hbw hbw0 hvK
      go_wp2_with fail
      refine wp_region_quiet_below (by kernel_rfl) (by kernel_rfl) ?_
      repeat (go_big_quiet_step (first | with_reducible exact cP _ _))
      refine wpQuiet_nil ?_
      intro w2 hw'
      have hb2 : Below wr.heap.size wr w2 := by
        obtain ⟨⟨dq, osq⟩, hw''⟩ := hw'
        rw [hw'']; exact below_regrown wr dq osq
      have HB2 := Lib.hid hb2
      clear hw' hb2 cP p0 p1 p2 p3 p4 p5 p6 p7 p8 p9
      by_cases hy0 : y = []
      · subst hy0
        have hhl : hasB L [] = true := by
          unfold hasB
          rw [List.any_eq_true]
          exact ⟨L[n], List.getElem_mem hnL, by rw [HXy.out]; rfl⟩
        have hR2 := HR.out
        unfold bhashN at hR2
        rw [if_pos hhl] at hR2
        obtain ⟨e1, e2⟩ := Prod.mk.inj hR2
        subst e1 e2
        clear hR2 hhl
        go_wp2_with fail
        go_ret2
        exact ⟨rfl, HB0.out.trans ((HBW.out.trans (HB2.out.mono HBW.out.size)).mono HB0.out.size)⟩
      · have f1 : (y == []) = false := by simpa using hy0
        have f2 : y.isEmpty = false := by simpa using hy0
        have HH2 := Lib.hid (show hasB (P ++ [y]) [] = false by rw [has_snoc, HHas.out, f1]; rfl)
        have HO1 := Lib.hid ((HO.out.below HB2.out).below ((Below.refl w2.heap.size w2).alloc (Nat.le_refl _) (.cells #[strV y] 9)))
        have HR1 := Lib.hid (show Reads (w2.alloc (.cells #[strV y] 9)) 1 (.slice (some ⟨w2.heap.size, 0, none⟩) 1 1) [y].length ([y].flatMap encS) from reads_block (t := 9) (fr := (0, 0)) (blk_new rfl) rfl)
        have hcn : P.length + [y].length ≤ 1000000000 := by simp only [List.length_cons, List.length_nil]; omega
        clear hy0
        go_wp2_with (at_builtin; refine wpList_append_v rfl (.tmp 38) (.tmp 40) 27 rfl 9 (.string ⟨#[]⟩) 1 16 encS (fun _ => rfl) oneB6 Tryz.underlying27 infoS rfl (by decide) (by decide) (w0 := W) (v := .slice ao P.length co) (A := P) (B := [y]) rfl HO1.out rfl HR1.out hcn ?_; intro v3 w3 ho3 hk3 hz3)
        go_roundw
        case rel => exact ⟨n + 1, by go_num, by omega, by rw [HTs.out]; exact ho3, by rw [HTs.out]; exact HH2⟩
        case measure => simp [intOf]; omega
    · have hq : decide ((n : Int) < (K.length : Int)) = false := by simp; omega
      have htk : L.take n = L := List.take_of_length_le (by have := HLl.out; omega)
      have hPL : P = L := by rw [← HP.out]; exact htk
      subst hPL
      clear HP htk
      have HVL := Lib.hid (OwnV.vec (size := 1) (enc := encS) (fun _ => rfl) HO.out)
      obtain ⟨k0, k1⟩ := cells2K (blk_below hbw (lt_of_blk HK0.out) HK0.out)
      have hR2 := HR.out
      unfold bhashN at hR2
      rw [if_neg (by rw [HHas.out]; decide)] at hR2
      have hd := digs_len i (by omega)
      have cI := in_regrown wr (fun W' _ => rnumber_one i W' hi10)
      obtain ⟨tt, ht⟩ : ∃ t, Lib.decDigits i = t := ⟨_, rfl⟩
      rw [ht] at hd cI hR2
      obtain ⟨ft, hft⟩ : ∃ ft, blkLabel tt = ft := ⟨_, rfl⟩
      have hf5 : 98 :: 108 :: 111 :: 99 :: 107 :: tt = ft := hft
      have hfl : ft.length ≤ 60000 := by rw [← hft]; simp [blkLabel]; omega
      rw [hft] at hR2
      obtain ⟨x, hx⟩ : ∃ x, deriveP k.1 k.2 ft = x := ⟨_, rfl⟩
      have cD := in_regrown wr (fun W' _ => rderive_any k.1 k.2 ft W' hfl)
      have cS := in_regrown wr (fun W' hb => rsparts_any _ x.1 x.2 _ P W' (HVL.out.below hb) HLs.out (by omega))
      rw [hx] at hR2 cD
      obtain ⟨e1, e2⟩ := Prod.mk.inj hR2
      subst e2
      rw [e1] at cS
      have hl1 : ¬ 9223372036854775807 < 5 + tt.length := by omega
      have p0 := cell_regrown k0; have p1 := cell_regrown k1
      clear hR2 ht hft hx e1 hbw hbw0 hvK
      go_wp2_with fail
      refine wp_region_quiet_below (by kernel_rfl) (by kernel_rfl) ?_
      repeat (go_big_quiet_step (first | with_reducible exact cI _ _ | with_reducible exact cD _ _ | with_reducible exact cS _ _))
      refine wpQuiet_nil ?_
      intro w2 hw'
      have hb2 : Below wr.heap.size wr w2 := by
        obtain ⟨⟨dq, osq⟩, hw''⟩ := hw'
        rw [hw'']; exact below_regrown wr dq osq
      have HB2 := Lib.hid (HB0.out.trans ((HBW.out.trans (hb2.mono HBW.out.size)).mono HB0.out.size))
      clear hw' hb2
      go_wp2_with fail
      go_ret2
      exact ⟨rfl, HB2.out⟩
end
section
set_option maxRecDepth 100000
open Go.RowKit
attribute [local go_sem] toList_mk mk_size str_append
theorem hashX_no {s : SchemaL} {k : Int × Int} {Ks : List (List (Int × Int))} {i e : Int} {r : RecL} (h : checkKI s.fields Ks i = e) (he : e ≠ 0) : hashX s k Ks i r = ((0, false), e) := by
  unfold hashX; rw [if_neg (by rw [h]; exact he), h]
theorem hashX_rec {s : SchemaL} {k : Int × Int} {Ks : List (List (Int × Int))} {i e : Int} {r : RecL} (h : checkKI s.fields Ks i = 0) (hr : checkN s r = e) (he : e ≠ 0) : hashX s k Ks i r = ((0, false), e) := by
  unfold hashX; rw [if_pos h, if_neg (by rw [hr]; exact he), hr]
theorem hashX_yes {s : SchemaL} {k : Int × Int} {Ks : List (List (Int × Int))} {n : Nat} {r : RecL} (h : checkKI s.fields Ks (n : Int) = 0) (hr : checkN s r = 0) : hashX s k Ks (n : Int) r = (bhashN k n ((Ks.getD n []).map (compN r.vals)), 0) := by
  unfold hashX; rw [if_pos h, if_pos hr, Int.toNat_natCast]
set_option maxHeartbeats 8000000 in
theorem rHash_any (S T : Nat → Prop) (vf vt vn vs kv : Value) (s : SchemaL) (k : Int × Int) (Ks : List (List (Int × Int))) (i : Int) (r : RecL) (sv : Value) (w : World) (h : SchemaAt w S vf vt vn vs s) (hk : KeysVec w T kv Ks) (hv : Vec w Any1 1 encS sv r.vals) (hc : checkS s = 0) (hs : ∀ x ∈ r.vals, x.length ≤ 1000000) (hvn : r.vals.length ≤ 1000000) (hn : s.fields.length ≤ 1000) (hl : Ks.length ≤ 1000000) (hK : ∀ K ∈ Ks, K.length ≤ 1000000) :
    Calls Tryz.prog 24 #[.agg #[vf, vt, vn, vs], .agg #[.int .u64 k.1, .int .u64 k.2], kv, .int .i64 i, .agg #[.int .i64 r.id, .int .i64 r.ver, sv]] w fun e w' =>
      e = .returned (.tuple #[.int .u64 (hashX s k Ks i r).1.1, .bool (hashX s k Ks i r).1.2, .int .i64 (hashX s k Ks i r).2]) ∧ Below w.heap.size w w' := by
  obtain ⟨ak, ck, rfl⟩ := hk.slice
  obtain ⟨av, cv, rfl⟩ := hv.slice
  obtain ⟨M, hM⟩ : ∃ M, r.vals.length = M := ⟨_, rfl⟩
  obtain ⟨ce, hce⟩ : ∃ ce, checkK s.fields Ks = ce := ⟨_, rfl⟩
  obtain ⟨⟨⟨r1, r2⟩, r3⟩, hR⟩ : ∃ R, hashX s k Ks i r = R := ⟨_, rfl⟩
  rw [hR]
  have hvn' := hvn
  rw [hM] at hvn ⊢
  have HS := Lib.hid h; have HKv := Lib.hid hk; have HV := Lib.hid hv; have HC := Lib.hid hc; have HSh := Lib.hid hs; have HKl := Lib.hid hK; have HCe := Lib.hid hce; have HR := Lib.hid hR; have HM := Lib.hid hM; have HVn := Lib.hid hvn'
  have HCk := Lib.hid (show ∀ W, Below w.heap.size w W → Calls Tryz.prog 65 #[.agg #[vf, vt, vn, vs], .agg #[.int .i64 r.id, .int .i64 r.ver, .slice av M cv]] W fun e w' => e = .returned (.int .i64 (checkN s r)) ∧ Below W.heap.size W w' from fun W hb => by
    have h1 := rrcheck_any S Any1 vf vt vn vs s r (.slice av r.vals.length cv) W (HS.out.below hb) (HV.out.below hb) HSh.out HVn.out
    rw [HM.out] at h1
    exact h1)
  have HHash := Lib.hid (show ∀ W, Below w.heap.size w W → ∀ n : Nat, n < Ks.length → checkN s r = 0 → KeysOk s.fields Ks → Calls Tryz.prog 59 #[.agg #[vf, vt, vn, vs], .agg #[.int .u64 k.1, .int .u64 k.2], .slice ak Ks.length ck, .int .i64 n, .agg #[.int .i64 r.id, .int .i64 r.ver, .slice av M cv]] W fun e w' => e = .returned (.tuple #[.int .u64 (bhashN k n ((Ks.getD n []).map (compN r.vals))).1, .bool (bhashN k n ((Ks.getD n []).map (compN r.vals))).2]) ∧ Below W.heap.size W w' from fun W hb n hn2 hr ok => by
    have h1 := rhash_yes S T vf vt vn vs (.slice ak Ks.length ck) s k Ks n r (.slice av r.vals.length cv) W (HS.out.below hb) (HKv.out.below hb) (HV.out.below hb) hr hn ok hn2
    rw [HM.out] at h1
    exact h1)
  have dz : ((0 : Int) != 0) = false := rfl
  obtain ⟨rid, rver, vals⟩ := r
  dsimp only at HV HSh HM HCk HHash HVn ⊢
  clear h hk hv hc hs hK hce hR hM hvn'
  go_enter Tryz.func24, Tryz.ntmps24
  go_wp2_with fail
  refine wp_calls_world (fun W hW => ?_)
  have hb0 : Below w.heap.size w W := by rw [hW]; exact (((Below.refl w.heap.size w).alloc (Nat.le_refl _) _).alloc (by simp) _).alloc (by simp; omega) _
  have hs0 : W.heap[w.heap.size]? = some (.cells #[vf, vt, vn, vs] 43 (0, 0)) := by rw [hW]; exact blk_old (blk_old (blk_new rfl))
  have hk0 : W.heap[w.heap.size + 1]? = some (.cells #[.int .u64 k.1, .int .u64 k.2] 26 (0, 0)) := by rw [hW]; exact blk_old (blk_new (by simp))
  have hr0 : W.heap[w.heap.size + 2]? = some (.cells #[.int .i64 rid, .int .i64 rver, .slice av M cv] 29 (0, 0)) := by rw [hW]; exact blk_new (by simp)
  clear hW
  refine (rbchk_any S T _ _ _ _ _ s Ks W (HS.out.below hb0) (HKv.out.below hb0) HC.out (by omega) hl HKl.out).mono ?_
  rw [HCe.out]
  rintro e w1 ⟨rfl, hb⟩
  have HB1 := Lib.hid (hb0.trans (hb.mono hb0.size))
  have HS1 := Lib.hid (blk_below hb (lt_of_blk hs0) hs0); have HK1 := Lib.hid (blk_below hb (lt_of_blk hk0) hk0); have HR1 := Lib.hid (blk_below hb (lt_of_blk hr0) hr0)
  clear hb0 hs0 hk0 hr0 hb
  have hR0 := HR.out
  by_cases hc0 : ce = 0
  · subst hc0
    by_cases hi0 : i < 0
    · have d0 : decide (i < 0) = true := decide_eq_true hi0
      rw [hashX_no (e := 2) (by unfold checkKI; rw [if_pos HCe.out, if_pos (.inl hi0)]) (by decide)] at hR0
      obtain ⟨e12, e3⟩ := Prod.mk.inj hR0
      obtain ⟨e1, e2⟩ := Prod.mk.inj e12
      subst e1 e2 e3
      clear hR0 e12
      go_wp2_with fail
      go_ret3
      exact ⟨rfl, HB1.out⟩
    · have d0 : decide (i < 0) = false := decide_eq_false hi0
      obtain ⟨n, rfl⟩ := Int.eq_ofNat_of_zero_le (show 0 ≤ i by omega)
      by_cases hj : (Ks.length : Int) ≤ (n : Int)
      · have d1 : decide ((Ks.length : Int) ≤ (n : Int)) = true := decide_eq_true hj
        have d1n : decide (Ks.length ≤ n) = true := decide_eq_true (by omega)
        rw [hashX_no (e := 2) (by unfold checkKI; rw [if_pos HCe.out, if_pos (.inr hj)]) (by decide)] at hR0
        obtain ⟨e12, e3⟩ := Prod.mk.inj hR0
        obtain ⟨e1, e2⟩ := Prod.mk.inj e12
        subst e1 e2 e3
        clear hR0 e12
        go_wp2_with fail
        go_ret3
        exact ⟨rfl, HB1.out⟩
      · have d1 : decide ((Ks.length : Int) ≤ (n : Int)) = false := decide_eq_false hj
        have d1n : decide (Ks.length ≤ n) = false := decide_eq_false (by omega)
        have hnl : n < Ks.length := by omega
        have hki : checkKI s.fields Ks (n : Int) = 0 := by unfold checkKI; rw [if_pos HCe.out, if_neg (by omega)]
        obtain ⟨s0, s1, s2, s3⟩ := cellsS HS1.out; obtain ⟨q0, q1, q2⟩ := cells3 HR1.out
        obtain ⟨cr, hcr⟩ : ∃ cr, checkN s ⟨rid, rver, vals⟩ = cr := ⟨_, rfl⟩
        have hcall := HCk.out w1 HB1.out
        rw [hcr] at hcall
        have HKi := Lib.hid hki
        have HCr := Lib.hid hcr; have HCall := Lib.hid hcall; have HR0 := Lib.hid hR0
        clear hcr hcall hR0 hi0 hj hki
        go_wp2_with fail
        refine HCall.out.mono ?_
        rintro e w2 ⟨rfl, hb⟩
        have HB2 := Lib.hid (HB1.out.trans (hb.mono HB1.out.size))
        have hs2 := blk_below hb (lt_of_blk HS1.out) HS1.out; have hk2 := blk_below hb (lt_of_blk HK1.out) HK1.out; have hr2 := blk_below hb (lt_of_blk HR1.out) HR1.out
        clear hb s0 s1 s2 s3 q0 q1 q2
        have hR0 := HR0.out
        by_cases hr0 : cr = 0
        · subst hr0
          rw [hashX_yes HKi.out HCr.out] at hR0
          obtain ⟨s0, s1, s2, s3⟩ := cellsS hs2; obtain ⟨q0, q1, q2⟩ := cells3 hr2; obtain ⟨k0, k1⟩ := cells2K hk2
          have hcall := HHash.out w2 HB2.out n hnl HCr.out (checkK_ok HCe.out)
          obtain ⟨⟨x1, x2⟩, hx⟩ : ∃ x, bhashN k n ((Ks.getD n []).map (compN vals)) = x := ⟨_, rfl⟩
          rw [hx] at hcall hR0
          dsimp only at hcall hR0
          obtain ⟨e12, e3⟩ := Prod.mk.inj hR0
          obtain ⟨e1, e2⟩ := Prod.mk.inj e12
          subst e1 e2 e3
          have HCall := Lib.hid hcall
          clear hR0 e12 hx hcall hs2 hk2 hr2
          go_wp2_with fail
          refine HCall.out.mono ?_
          rintro e w3 ⟨rfl, hb⟩
          have HB3 := Lib.hid (HB2.out.trans (hb.mono HB2.out.size))
          clear hb s0 s1 s2 s3 q0 q1 q2 k0 k1
          dsimp only
          go_wp2_with fail
          go_ret3
          exact ⟨rfl, HB3.out⟩
        · have dne : (cr != (0 : Int)) = true := by simpa using hr0
          rw [hashX_rec HKi.out HCr.out hr0] at hR0
          obtain ⟨e12, e3⟩ := Prod.mk.inj hR0
          obtain ⟨e1, e2⟩ := Prod.mk.inj e12
          subst e1 e2 e3
          clear hR0 e12 hs2 hk2 hr2 hr0
          go_wp2_with fail
          go_ret3
          exact ⟨rfl, HB2.out⟩
  · have dne : (ce != (0 : Int)) = true := by simpa using hc0
    rw [hashX_no (e := ce) (by unfold checkKI; rw [if_neg (by rw [HCe.out]; exact hc0), HCe.out]) hc0] at hR0
    obtain ⟨e12, e3⟩ := Prod.mk.inj hR0
    obtain ⟨e1, e2⟩ := Prod.mk.inj e12
    subst e1 e2 e3
    clear hR0 e12 hc0
    go_wp2_with fail
    go_ret3
    exact ⟨rfl, HB1.out⟩
end
section
set_option maxRecDepth 100000
open Go.RowKit
set_option maxHeartbeats 4000000 in
theorem rints_self (S T : Nat → Prop) (va vb : Value) (A : List Int) (w : World) (hA : Vec w S 1 encIn va A) (hB : Vec w T 1 encIn vb A) (hn : A.length ≤ 1000000) :
    Calls Tryz.prog 60 #[va, vb] w fun e w' => e = .returned (.bool true) ∧ Below w.heap.size w w' := by
  obtain ⟨aa, ca, rfl⟩ := hA.slice
  obtain ⟨ab, cb, rfl⟩ := hB.slice
  have HA := Lib.hid hA; have HB := Lib.hid hB
  have hq0 : ((A.length : Int) != (A.length : Int)) = false := by simp
  clear hA hB
  go_enter Tryz.func60, Tryz.ntmps60
  go_wp2_with fail
  go_loopw [5] (fun i wr => ∃ k : Nat, k ≤ A.length ∧ i = .int .i64 k ∧ Below w.heap.size w wr) (fun i _ => A.length - (intOf i).toNat)
  case atStart => exact ⟨0, by omega, rfl, Below.refl _ _⟩
  case round =>
    obtain ⟨k, hk, rfl, hbw⟩ := hrel
    have HW := Lib.hid hbw
    by_cases hlt : k < A.length
    · have hq : decide ((k : Int) < A.length) = true := by simp; omega
      have hki : (k : Int) < (A.length : Int) := by omega
      obtain ⟨b1, o1, rfl, lb1, hc1⟩ := (HA.out.below hbw).get k hlt
      obtain ⟨b2, o2, rfl, lb2, hc2⟩ := (HB.out.below hbw).get k hlt
      have c1 := hc1 0 _ rfl; have c2 := hc2 0 _ rfl
      obtain ⟨x, hx⟩ : ∃ x, A[k] = x := ⟨_, rfl⟩
      rw [hx, Nat.mul_one, Nat.add_zero] at c1 c2
      have c1 : wr.cell? ⟨b1, o1 + k, none⟩ = some (.int .i64 x) := c1
      have c2 : wr.cell? ⟨b2, o2 + k, none⟩ = some (.int .i64 x) := c2
      have p1 := cell_regrown c1; have p2 := cell_regrown c2
      have d1 : (x != x) = false := by simp
      clear hc1 hc2 hx hbw
      go_wp2_with fail
      refine wp_region_quiet_below (by kernel_rfl) (by kernel_rfl) ?_
      repeat (go_big_quiet_step (fail))
      refine wpQuiet_nil ?_
      intro w2 hw'
      have hb2 : Below wr.heap.size wr w2 := by
        obtain ⟨⟨dq, osq⟩, hw''⟩ := hw'
        rw [hw'']; exact below_regrown wr dq osq
      have HB2 := Lib.hid (HW.out.trans (hb2.mono HW.out.size))
      clear hw' hb2
      go_wp2_with fail
      go_roundw
      case rel => exact ⟨k + 1, by omega, by go_num, HB2.out⟩
      case measure => simp [intOf]; omega
    · have hq : decide ((k : Int) < A.length) = false := by simp; omega
      go_wp2_with fail
      go_ret
      exact ⟨rfl, HW.out⟩
theorem BlocksAt.get {w : World} {S : Nat → Prop} {a : Option Addr} {n cap : Nat} {L : List BkP} (h : BlocksAt w S (.slice a n cap) L) (j : Nat) (hj : j < L.length) :
    ∃ b off ia iN ic, a = some ⟨b, off, none⟩ ∧ b < w.heap.size ∧ w.cell? ⟨b, off + j * 2, none⟩ = some (.int .u64 L[j].1) ∧ w.cell? ⟨b, off + j * 2 + 1, none⟩ = some (.slice ia iN ic) ∧ Vec w S 1 encIn (.slice ia iN ic) L[j].2 := by
  obtain ⟨C, hv, hm, hids⟩ := h
  have hl : C.length = L.length := by rw [← hm, List.length_map]
  have hjC : j < C.length := by omega
  obtain ⟨b, off, he, lb, hc⟩ := hv.get j hjC
  have hx : L[j] = pB C[j] := by simp only [← hm, List.getElem_map]
  refine ⟨b, off, C[j].a, C[j].n, C[j].c, he, lb, ?_, hc 1 _ rfl, ?_⟩
  · have := hc 0 _ rfl
    rw [Nat.add_zero] at this
    rw [hx]; exact this
  · rw [hx]; exact hids C[j] (List.getElem_mem hjC)
set_option maxHeartbeats 4000000 in
theorem rsameB_self (S T : Nat → Prop) (va vb : Value) (L : List BkP) (w : World) (hA : BlocksAt w S va L) (hB : BlocksAt w T vb L) (hn : L.length ≤ 1000000) (hi : ∀ b ∈ L, b.2.length ≤ 1000000) :
    Calls Tryz.prog 21 #[va, vb] w fun e w' => e = .returned (.bool true) ∧ Below w.heap.size w w' := by
  obtain ⟨aa, ca, rfl⟩ := hA.slice
  obtain ⟨ab, cb, rfl⟩ := hB.slice
  have HA := Lib.hid hA; have HB := Lib.hid hB; have HI := Lib.hid hi
  have hq0 : ((L.length : Int) != (L.length : Int)) = false := by simp
  clear hA hB hi
  go_enter Tryz.func21, Tryz.ntmps21
  go_wp2_with fail
  go_loopw [5] (fun i wr => ∃ k : Nat, k ≤ L.length ∧ i = .int .i64 k ∧ Below w.heap.size w wr) (fun i _ => L.length - (intOf i).toNat)
  case atStart => exact ⟨0, by omega, rfl, Below.refl _ _⟩
  case round =>
    obtain ⟨k, hk, rfl, hbw⟩ := hrel
    have HW := Lib.hid hbw
    by_cases hlt : k < L.length
    · have hq : decide ((k : Int) < L.length) = true := by simp; omega
      have hki : (k : Int) < (L.length : Int) := by omega
      obtain ⟨b1, o1, ia, iN, ic, rfl, lb1, c1, e1, hv1⟩ := (HA.out.below hbw).get k hlt
      obtain ⟨b2, o2, ja, jn, jc, rfl, lb2, c2, e2, hv2⟩ := (HB.out.below hbw).get k hlt
      have hil := HI.out L[k] (List.getElem_mem hlt)
      have HV1 := Lib.hid hv1; have HV2 := Lib.hid hv2
      obtain ⟨x, hx⟩ : ∃ x, L[k].1 = x := ⟨_, rfl⟩
      rw [hx] at c1 c2
      have cI := in_regrown wr (fun W' hb => rints_self _ _ _ _ L[k].2 W' (HV1.out.below hb) (HV2.out.below hb) hil)
      have p1 := cell_regrown c1; have p2 := cell_regrown c2; have p3 := cell_regrown e1; have p4 := cell_regrown e2
      have d1 : (x != x) = false := by simp
      clear hx hbw hv1 hv2
      go_wp2_with fail
      refine wp_region_quiet_below (by kernel_rfl) (by kernel_rfl) ?_
      repeat (go_big_quiet_step (first | with_reducible exact cI _ _))
      refine wpQuiet_nil ?_
      intro w2 hw'
      have hb2 : Below wr.heap.size wr w2 := by
        obtain ⟨⟨dq, osq⟩, hw''⟩ := hw'
        rw [hw'']; exact below_regrown wr dq osq
      have HB2 := Lib.hid (HW.out.trans (hb2.mono HW.out.size))
      clear hw' hb2
      go_wp2_with fail
      go_roundw
      case rel => exact ⟨k + 1, by omega, by go_num, HB2.out⟩
      case measure => simp [intOf]; omega
    · have hq : decide ((k : Int) < L.length) = false := by simp; omega
      go_wp2_with fail
      go_ret
      exact ⟨rfl, HW.out⟩
set_option maxHeartbeats 4000000 in
theorem rsameBs_self (S T : Nat → Prop) (va vb : Value) (Ls : List (List BkP)) (w : World) (hA : BListsAt w S va Ls) (hB : BListsAt w T vb Ls) (hn : Ls.length ≤ 1000000) (hi : ∀ L ∈ Ls, L.length ≤ 1000000 ∧ ∀ b ∈ L, b.2.length ≤ 1000000) :
    Calls Tryz.prog 18 #[va, vb] w fun e w' => e = .returned (.bool true) ∧ Below w.heap.size w w' := by
  obtain ⟨aa, ca, rfl⟩ := hA.slice
  obtain ⟨ab, cb, rfl⟩ := hB.slice
  have HA := Lib.hid hA; have HB := Lib.hid hB; have HI := Lib.hid hi
  have hq0 : ((Ls.length : Int) != (Ls.length : Int)) = false := by simp
  clear hA hB hi
  go_enter Tryz.func18, Tryz.ntmps18
  go_wp2_with fail
  go_loopw [5] (fun i wr => ∃ k : Nat, k ≤ Ls.length ∧ i = .int .i64 k ∧ Below w.heap.size w wr) (fun i _ => Ls.length - (intOf i).toNat)
  case atStart => exact ⟨0, by omega, rfl, Below.refl _ _⟩
  case round =>
    obtain ⟨k, hk, rfl, hbw⟩ := hrel
    have HW := Lib.hid hbw
    by_cases hlt : k < Ls.length
    · have hq : decide ((k : Int) < Ls.length) = true := by simp; omega
      have hki : (k : Int) < (Ls.length : Int) := by omega
      obtain ⟨b1, o1, x1, rfl, lb1, c1, hv1⟩ := (HA.out.below hbw).at k hlt
      obtain ⟨b2, o2, x2, rfl, lb2, c2, hv2⟩ := (HB.out.below hbw).at k hlt
      obtain ⟨xa, xn, xc⟩ := x1
      obtain ⟨ya, yn, yc⟩ := x2
      dsimp only at c1 c2 hv1 hv2
      have hil := HI.out Ls[k] (List.getElem_mem hlt)
      have HV1 := Lib.hid hv1; have HV2 := Lib.hid hv2
      have cI := in_regrown wr (fun W' hb => rsameB_self _ _ _ _ _ W' (HV1.out.below hb) (HV2.out.below hb) (by first | exact hil.1 | (rw [getD_at _ _ hlt]; exact hil.1)) (by first | exact hil.2 | (rw [getD_at _ _ hlt]; exact hil.2)))
      have p1 := cell_regrown c1; have p2 := cell_regrown c2
      clear hbw hv1 hv2 hil
      go_wp2_with fail
      refine wp_region_quiet_below (by kernel_rfl) (by kernel_rfl) ?_
      repeat (go_big_quiet_step (first | with_reducible exact cI _ _))
      refine wpQuiet_nil ?_
      intro w2 hw'
      have hb2 : Below wr.heap.size wr w2 := by
        obtain ⟨⟨dq, osq⟩, hw''⟩ := hw'
        rw [hw'']; exact below_regrown wr dq osq
      have HB2 := Lib.hid (HW.out.trans (hb2.mono HW.out.size))
      clear hw' hb2
      go_wp2_with fail
      go_roundw
      case rel => exact ⟨k + 1, by omega, by go_num, HB2.out⟩
      case measure => simp [intOf]; omega
    · have hq : decide ((k : Int) < Ls.length) = false := by simp; omega
      go_wp2_with fail
      go_ret
      exact ⟨rfl, HW.out⟩
end
section
open Go.RowKit
theorem BRow.putN {w0 w w' : World} {v v' : Value} {C : List BkV} (h : BRow w0 v C w) (i : Nat) (hi : i ≤ C.length) (k : Int) (ho : OwnV 93 2 encBk w0 v' (C.take i ++ ⟨k, none, 0, 0, []⟩ :: C.drop i) w')
    (hk : ∀ k o, some k ≠ v.ownBlock → w.heap[k]? = some o → w'.heap[k]? = some o) (hv : v'.ownBlock = none ∨ ∃ g, v'.ownBlock = some g ∧ w.heap.size ≤ g) : BRow w0 v' (C.take i ++ ⟨k, none, 0, 0, []⟩ :: C.drop i) w' := by
  have hm : ∀ x, x ∈ C.take i ++ ⟨k, none, 0, 0, []⟩ :: C.drop i → x = ⟨k, none, 0, 0, []⟩ ∨ x ∈ C := by
    intro x hx
    rcases List.mem_append.1 hx with h1 | h1
    · exact .inr (List.mem_of_mem_take h1)
    · rcases List.mem_cons.1 h1 with h2 | h2
      · exact .inl h2
      · exact .inr (List.mem_of_mem_drop h2)
  refine ⟨ho, fun x hx => ?_, fun x hx => ?_, ?_⟩
  · rcases hm x hx with rfl | h1
    · exact ⟨rfl, .inl ⟨rfl, rfl⟩⟩
    · exact own_keptR (h.ids x h1) hk (h.off x h1)
  · rcases hm x hx with rfl | h1
    · exact .inl rfl
    · rcases h.off x h1 with h2 | h2
      · exact .inl h2
      · rcases hv with h3 | ⟨g, h3, hg⟩
        · rw [h3]
          by_cases h4 : (idV x).ownBlock = none
          · exact .inl h4
          · exact .inr h4
        · right
          rw [h3]
          intro e
          have := ((h.ids x h1).lt _ e).2
          omega
  · have hs : ∀ x y : BkV, ((idV x).ownBlock = none ∨ (idV x).ownBlock ≠ (idV y).ownBlock) → ((idV y).ownBlock = none ∨ (idV y).ownBlock ≠ (idV x).ownBlock) := by
      intro x y h1
      rcases h1 with h1 | h1
      · by_cases h2 : (idV y).ownBlock = none
        · exact .inl h2
        · exact .inr (by rw [h1]; exact h2)
      · exact .inr (Ne.symm h1)
    have h1 := h.apart
    rw [← List.take_append_drop i C] at h1
    have h2 := List.pairwise_append.1 h1
    refine List.pairwise_append.2 ⟨h2.1, List.pairwise_cons.2 ⟨fun y _ => .inl rfl, h2.2.1⟩, fun x hx y hy => ?_⟩
    rcases List.mem_cons.1 hy with rfl | hy'
    · exact hs _ _ (.inl rfl)
    · exact h2.2.2 x hx y hy'
section
variable {α : Type} {P : Program} {w : World} {o : Oper} {a : Act} {K : Act → World → Prop} {Q : Exit → Act → World → Prop}
theorem wp_append_va (s x : Operand) (t : TypeId) (ho : o.op = .call { callee := .builtin .append, args := #[s, x], argTypes := #[t, t] })
    (e : TypeId) (z : Value) (size bytes : Nat) (enc : α → List Value) (hk : ∀ x, (enc x).length = size) (h1 : ∀ x, ∀ u ∈ enc x, u.oneCell' = true) (ht : P.underlying t = some (.slice e)) (hinfo : (P.info? e).map (fun i => (i.zero, i.size, i.bytes)) = some (some z, size, bytes))
    (hzs : z.cells.size = size) (hsz : 0 < size) (hby : bytes ≤ 128) {w0 : World} {v u : Value} {A B : List α} (hs : a.eval s = v) (hown : OwnV e size enc w0 v A w) (hx : a.eval x = u) (hr : Reads w size u B.length (B.flatMap enc)) (hn : A.length + B.length ≤ 1000000000)
    (h : ∀ v' w', OwnV e size enc w0 v' (A ++ B) w' → (∀ k o, some k ≠ v.ownBlock → w.heap[k]? = some o → w'.heap[k]? = some o) → w.heap.size ≤ w'.heap.size → (v'.ownBlock = none ∨ v.ownBlock = v'.ownBlock ∨ v'.ownBlock = some w.heap.size) → K (a.put o.dst v') w') : Oper.wp P o a w K Q := by
  refine wp_append_reads s x t ho w0.heap.size e z size bytes ht hinfo hzs hsz v A.length (A.flatMap enc) hs hown.1 u B.length (B.flatMap enc) hx hr (fun u hu => ?_) (by unfold maxLen; omega) ?_ hown.2.size ?_
  · obtain ⟨y, _, hy⟩ := List.mem_flatMap.1 hu
    exact h1 y u hy
  · exact Nat.le_trans (Nat.mul_le_mul hn hby) (by decide)
  · intro v' w' ho' hg hat
    refine h v' w' ⟨by rw [List.length_append, List.flatMap_append]; exact ho', hown.2.grown hg hown.2.size fun k hk => ?_⟩ (fun k o hk hko => (hg.block k (lt_of_blk hko) hk).trans hko) hg.size hat
    rcases hown.1.2 with ⟨rfl, _⟩ | ⟨g, cap, cur, rfl, hg1, _⟩
    · simp [Value.ownBlock] at hk
    · have : g = k := by simpa [Value.ownBlock] using hk
      omega
end
theorem Vec.reads_dropK {α : Type} {w : World} {S : Nat → Prop} {k : Nat} {enc : α → List Value} (hk : ∀ x, (enc x).length = k) {b off n cap : Nat} {L : List α} (h : Vec w S k enc (.slice (some ⟨b, off, none⟩) n cap) L) (m : Nat) (hm : m ≤ L.length) (p : Prop) [Decidable p] (hp : p → m = L.length) (c : Nat) :
    Reads w k (.slice (if p then some ⟨b, off, none⟩ else some ⟨b, off + m * k, none⟩) (L.length - m) c) (L.length - m) ((L.drop m).flatMap enc) := by
  have hr := h.reads hk
  obtain ⟨a, c', he, hl, hc⟩ := hr
  cases he
  refine ⟨_, c, rfl, by rw [flat_len hk, List.length_drop], fun h0 => ?_⟩
  have hnp : ¬ p := fun hp' => by have := hp hp'; omega
  rw [if_neg hnp]
  obtain ⟨A, hA, hcell⟩ := hc (by omega)
  cases hA
  refine ⟨_, rfl, fun j v hj => ?_⟩
  have e : (L.flatMap enc)[m * k + j]? = some v := by
    have h2 : L.flatMap enc = (L.take m).flatMap enc ++ (L.drop m).flatMap enc := by rw [← List.flatMap_append, List.take_append_drop]
    have h3 : ((L.take m).flatMap enc).length = m * k := by rw [flat_len hk, List.length_take, Nat.min_eq_left hm]
    rw [h2, List.getElem?_append_right (by omega), h3, show m * k + j - m * k = j by omega]; exact hj
  have := hcell (m * k + j) v e
  rw [add_plain] at this ⊢
  rwa [Nat.add_assoc]
end
section
open Go.RowKit
/-- whether region n lies in a piece of code -/
def hasReg (n : Nat) : Code → Bool
  | .region m _ _ => Nat.beq m n
  | .seq a b => if hasReg n a = true then true else hasReg n b
  | .block _ c => hasReg n c
  | .loop c => hasReg n c
  | .scope c => hasReg n c
  | .cond _ a b => if hasReg n a = true then true else hasReg n b
  | _ => false
/-- what follows the outermost statement that holds region n -/
def afterTop (n : Nat) : Code → Option Code
  | .seq a b => if hasReg n a = true then some b else afterTop n b
  | _ => none
/-- the outermost statement that holds region n -/
def stmtTop (n : Nat) : Code → Option Code
  | .seq a b => if hasReg n a = true then some a else stmtTop n b
  | _ => none
noncomputable def restOf (fn : Func) (n : Nat) : Code := ((fn.body.bind (afterTop n)).getD .skip)
noncomputable def stmtOf (fn : Func) (n : Nat) : Code := ((fn.body.bind (stmtTop n)).getD .skip)
def rightOf : Code → Code
  | .seq _ b => b
  | c => c
/-- region n itself -/
def findReg (n : Nat) : Code → Option Code
  | .region m o d => if Nat.beq m n = true then some (.region m o d) else none
  | .seq a b => (match findReg n a with | some c => some c | none => findReg n b)
  | .block _ c => findReg n c
  | .loop c => findReg n c
  | .scope c => findReg n c
  | .cond _ a b => (match findReg n a with | some c => some c | none => findReg n b)
  | _ => none
noncomputable def regOf (fn : Func) (n : Nat) : Code := ((fn.body.bind (findReg n)).getD .skip)
end
section
set_option maxRecDepth 100000
open Go.RowKit
theorem new_at {v v' : Value} {z z' : Nat} (h : v'.ownBlock = none ∨ v'.ownBlock = v.ownBlock ∨ v'.ownBlock = some z') (hz : z ≤ z') (hv : v.ownBlock = none ∨ ∃ g, v.ownBlock = some g ∧ z ≤ g) : v'.ownBlock = none ∨ ∃ g, v'.ownBlock = some g ∧ z ≤ g := by
  rcases h with h | h | h
  · exact .inl h
  · rcases hv with h2 | ⟨g, h2, h3⟩
    · exact .inl (h.trans h2)
    · exact .inr ⟨g, h.trans h2, h3⟩
  · exact .inr ⟨z', h, hz⟩
theorem put_fin {W w3 w6 : World} {v v3 : Value} {C : List BkV} {q : Nat} {h : Int} (hrow : BRow W v C w3) (hq : q ≤ C.length) (ho : OwnV 93 2 encBk w3 v3 (C.take q ++ [newBk h] ++ C.drop q) w6) (hv : v3.ownBlock = none ∨ ∃ g, v3.ownBlock = some g ∧ w3.heap.size ≤ g) :
    BRow W v3 (C.take q ++ newBk h :: C.drop q) w6 ∧ Below w3.heap.size w3 w6 := by
  have ho2 := ho.rebase hrow.own.2
  rw [List.append_assoc] at ho2
  exact ⟨hrow.putN q hq h ho2 (fun k o _ hk => blk_below ho.2 (lt_of_blk hk) hk) hv, ho.2⟩
theorem rb1_of {W w3 w' : World} {g q cap : Nat} {C : List BkV} (hq : q ≤ C.length) (h : BRow W (.slice (some ⟨g, 0, none⟩) C.length cap) C w3) (hb : Below w3.heap.size w3 w') : Reads w' 2 (.slice (some ⟨g, 0, none⟩) q cap) (C.take q).length ((C.take q).flatMap encBk) := by
  have hv := (OwnV.vec (size := 2) (enc := encBk) (fun _ => rfl) h.own).below hb
  have := Vec.reads_take (k := 2) (enc := encBk) (fun _ => rfl) hv q hq
  rwa [List.length_take, Nat.min_eq_left hq]
theorem rb2_of {W w3 w' : World} {g q cap : Nat} {C : List BkV} (hq : q ≤ C.length) (h : BRow W (.slice (some ⟨g, 0, none⟩) C.length cap) C w3) (hb : Below w3.heap.size w3 w') : Reads w' 2 (.slice (if cap = q then some ⟨g, 0, none⟩ else some ⟨g, q * 2, none⟩) (C.length - q) (cap - q)) (C.drop q).length ((C.drop q).flatMap encBk) := by
  have hv := (OwnV.vec (size := 2) (enc := encBk) (fun _ => rfl) h.own).below hb
  have hc := hv.len.2
  have := Vec.reads_dropK (k := 2) (enc := encBk) (fun _ => rfl) hv q hq (cap = q) (fun e => by omega) (cap - q)
  rw [Nat.zero_add] at this
  rwa [List.length_drop]
theorem rb_nil {w3 w' : World} (hb : Below w3.heap.size w3 w') : Reads w' 2 (.slice none 0 0) ([] : List BkV).length (([] : List BkV).flatMap encBk) := ⟨none, 0, rfl, rfl, fun h => by simp at h⟩
set_option maxHeartbeats 8000000 in
theorem rput_new (W w3 : World) (av : Option Addr) (cv : Nat) (C : List BkV) (q : Nat) (h : Int) (HRow : Hid (BRow W (.slice av C.length cv) C w3)) (hq : q ≤ C.length) (hC : C.length ≤ 1000) (sl0 sl1 sl2 sl3 sl4 sl5 sl6 sl7 sl8 sl9 sl10 sl11 sl12 sl13 sl15 sl17 sl19 sl20 sl21 sl22 sl23 sl24 sl25 sl26 sl27 sl28 sl29 sl30 sl31 sl32 sl33 sl34 sl35 sl36 sl37 sl38 sl39 sl40 sl41 sl42 sl43 sl44 sl45 sl46 sl47 sl48 sl49 sl50 sl51 sl52 sl53 sl54 sl55 sl56 sl57 sl58 sl59 sl60 sl61 sl62 sl63 sl64 sl65 sl66 sl67 sl68 sl69 sl70 sl71 sl72 sl73 sl74 sl75 sl76 sl77 sl78 sl79 sl80 sl81 sl82 sl83 sl84 sl85 sl86 sl87 sl88 sl89 sl90 sl91 sl92 sl93 sl94 sl95 sl96 sl97 sl98 sl99 sl100 sl101 sl102 sl103 sl104 sl105 sl106 sl107 sl108 sl109 sl110 sl111 sl112 sl113 sl114 sl115 : Value) (K : Act → World → Prop) (Q' : Exit → Act → World → Prop)
    (hK : ∀ (tl14 tl87 tl88 tl89 tl90 tl91 tl92 tl93 tl94 tl95 tl96 tl97 tl98 : Value) (wx : World), Hid (BRow W tl14 (C.take q ++ newBk h :: C.drop q) wx ∧ Below w3.heap.size w3 wx) → K ⟨List.toArray (sl0 :: sl1 :: sl2 :: sl3 :: sl4 :: sl5 :: sl6 :: sl7 :: sl8 :: sl9 :: sl10 :: sl11 :: sl12 :: sl13 :: tl14 :: sl15 :: .int .u64 h :: sl17 :: .int .i64 q :: sl19 :: sl20 :: sl21 :: sl22 :: sl23 :: sl24 :: sl25 :: sl26 :: sl27 :: sl28 :: sl29 :: sl30 :: sl31 :: sl32 :: sl33 :: sl34 :: sl35 :: sl36 :: sl37 :: sl38 :: sl39 :: sl40 :: sl41 :: sl42 :: sl43 :: sl44 :: sl45 :: sl46 :: sl47 :: sl48 :: sl49 :: sl50 :: sl51 :: sl52 :: sl53 :: sl54 :: sl55 :: sl56 :: sl57 :: sl58 :: sl59 :: sl60 :: sl61 :: sl62 :: sl63 :: sl64 :: sl65 :: sl66 :: sl67 :: sl68 :: sl69 :: sl70 :: sl71 :: sl72 :: sl73 :: sl74 :: sl75 :: sl76 :: sl77 :: sl78 :: sl79 :: sl80 :: sl81 :: sl82 :: sl83 :: sl84 :: sl85 :: sl86 :: tl87 :: tl88 :: tl89 :: tl90 :: tl91 :: tl92 :: tl93 :: tl94 :: tl95 :: tl96 :: tl97 :: tl98 :: sl99 :: sl100 :: sl101 :: sl102 :: sl103 :: sl104 :: sl105 :: sl106 :: sl107 :: sl108 :: sl109 :: sl110 :: sl111 :: sl112 :: sl113 :: sl114 :: sl115 :: []), []⟩ wx) :
    (regOf Tryz.f20 19).wp Tryz.prog (Exit.then K Q') ⟨List.toArray (sl0 :: sl1 :: sl2 :: sl3 :: sl4 :: sl5 :: sl6 :: sl7 :: sl8 :: sl9 :: sl10 :: sl11 :: sl12 :: sl13 :: .slice av C.length cv :: sl15 :: .int .u64 h :: sl17 :: .int .i64 q :: sl19 :: sl20 :: sl21 :: sl22 :: sl23 :: sl24 :: sl25 :: sl26 :: sl27 :: sl28 :: sl29 :: sl30 :: sl31 :: sl32 :: sl33 :: sl34 :: sl35 :: sl36 :: sl37 :: sl38 :: sl39 :: sl40 :: sl41 :: sl42 :: sl43 :: sl44 :: sl45 :: sl46 :: sl47 :: sl48 :: sl49 :: sl50 :: sl51 :: sl52 :: sl53 :: sl54 :: sl55 :: sl56 :: sl57 :: sl58 :: sl59 :: sl60 :: sl61 :: sl62 :: sl63 :: sl64 :: sl65 :: sl66 :: sl67 :: sl68 :: sl69 :: sl70 :: sl71 :: sl72 :: sl73 :: sl74 :: sl75 :: sl76 :: sl77 :: sl78 :: sl79 :: sl80 :: sl81 :: sl82 :: sl83 :: sl84 :: sl85 :: sl86 :: sl87 :: sl88 :: sl89 :: sl90 :: sl91 :: sl92 :: sl93 :: sl94 :: sl95 :: sl96 :: sl97 :: sl98 :: sl99 :: sl100 :: sl101 :: sl102 :: sl103 :: sl104 :: sl105 :: sl106 :: sl107 :: sl108 :: sl109 :: sl110 :: sl111 :: sl112 :: sl113 :: sl114 :: sl115 :: []), []⟩ w3 := by
  conv => arg 2; whnf
  have hform := OwnV.form HRow.out.own
  rcases hform with ⟨e0, rfl⟩ | ⟨g, cap, e0, hc1, hc2, hg⟩
  · cases e0
    obtain rfl : q = 0 := by simpa using hq
    go_wp2_with fail
    refine wp_region_noPanic ?_
    refine wp_region_held_drew (S := (fun w' => True)) (by kernel_rfl) (trivial) (fun hHeld => ?_)
    refine tH 0 (h := ?_)
    refine tH 1 (h := ?_)
    refine tH 2 (h := ?_)
    refine tH 4 (h := ?_)
    refine tH 5 (h := ?_)
    refine tH 8 (h := ?_)
    refine tH 9 (h := ?_)
    refine tH 10 (h := ?_)
    have bD : Below w3.heap.size w3 w3.drew := (Below.refl _ _).drew
    refine wpAnyH_ready (rs := [3, 6]) (by kernel_rfl) (by simp) ?_
    refine AllReadyH.cons rfl (fun K hK => ?_) (AllReadyH.cons rfl (fun K hK => ?_) AllReadyH.nil)
    focus
      refine wp_append_va (.const (.slice none 0 0)) (.tmp 89) 59 (by rfl) 93 (.agg #[.int .u64 0, .slice none 0 0]) 2 32 encBk (fun _ => rfl) one_encBk Tryz.underlying59 infoBk rfl (by decide) (by decide) (w0 := w3) (v := .slice none 0 0) (A := []) (B := ([] : List BkV)) (by rfl) (OwnV.nil bD) (by rfl) (rb_nil bD) (by first | omega | (simp; done) | (simp; omega)) ?_
      intro v1 w4 ho1 _ hz1' hat1
      rw [List.nil_append] at ho1
      refine hK.out _ _ trivial (fun hHeld => ?_)
      clear hK K
      try simp only [List.getElem_toArray, List.getElem_cons_zero, List.getElem_cons_succ, Act.put, List.setIfInBounds_toArray, List.set_cons_zero, List.set_cons_succ]
      have hz1 : v1.ownBlock = none ∨ ∃ g, v1.ownBlock = some g ∧ w3.heap.size ≤ g := new_at (v := .slice none 0 0) (hat1.imp id (Or.imp_left Eq.symm)) bD.size (.inl rfl)
      refine wpAnyH_ready (rs := [6]) (by kernel_rfl) (by simp) ?_
      refine AllReadyH.cons rfl (fun K hK => ?_) AllReadyH.nil
      go_simp
      skip
      refine hK.out _ _ (trivial) (fun hHeld => ?_)
      clear hK K
      try simp only [List.getElem_toArray, List.getElem_cons_zero, List.getElem_cons_succ, Act.put, List.setIfInBounds_toArray, List.set_cons_zero, List.set_cons_succ]
      have bB := (Below.refl w4.heap.size w4).alloc (Nat.le_refl _) (.cells #[.int .u64 h, .slice none 0 0] 93)
      have ho2 := OwnV.below ho1 bB
      have hg2 : (w4.alloc (.cells #[.int .u64 h, .slice none 0 0] 93)).heap[w4.heap.size]? = some (.cells (encBk (newBk h)).toArray 93 (0, 0)) := blk_new rfl
      clear ho1 bB
      have hr2 : Reads _ 2 (.slice (some ⟨_, 0, none⟩) 1 1) [newBk h].length ([newBk h].flatMap encBk) := reads_block (size := 2) hg2 rfl
      refine wpAnyH_ready (rs := [7]) (by kernel_rfl) (by simp) ?_
      refine AllReadyH.cons rfl (fun K hK => ?_) AllReadyH.nil
      refine wp_append_va (.tmp 90) (.tmp 93) 59 (by rfl) 93 (.agg #[.int .u64 0, .slice none 0 0]) 2 32 encBk (fun _ => rfl) one_encBk Tryz.underlying59 infoBk rfl (by decide) (by decide) (w0 := w3) (v := v1) (A := ([] : List BkV)) (B := [newBk h]) (by rfl) (ho2) (by rfl) (hr2) (by first | omega | (simp; done) | (simp; omega)) ?_; intro v2 w5 ho3 _ _ hat3
      refine hK.out _ _ (trivial) (fun hHeld => ?_)
      clear hK K
      try simp only [List.getElem_toArray, List.getElem_cons_zero, List.getElem_cons_succ, Act.put, List.setIfInBounds_toArray, List.set_cons_zero, List.set_cons_succ]
      refine wpAnyH_ready (rs := [11]) (by kernel_rfl) (by simp) ?_
      refine AllReadyH.cons rfl (fun K hK => ?_) AllReadyH.nil
      refine wp_append_va (.tmp 94) (.tmp 97) 59 (by rfl) 93 (.agg #[.int .u64 0, .slice none 0 0]) 2 32 encBk (fun _ => rfl) one_encBk Tryz.underlying59 infoBk rfl (by decide) (by decide) (w0 := w3) (v := v2) (A := ([] : List BkV) ++ [newBk h]) (B := ([] : List BkV)) (by rfl) (ho3) (by rfl) (rb_nil ho3.2) (by first | omega | (simp; done) | (simp; omega)) ?_; intro v3 w6 ho4 _ _ hat4
      refine hK.out _ _ (trivial) (fun hHeld => ?_)
      clear hK K
      try simp only [List.getElem_toArray, List.getElem_cons_zero, List.getElem_cons_succ, Act.put, List.setIfInBounds_toArray, List.set_cons_zero, List.set_cons_succ]
      have hfin := Lib.hid (put_fin (C := []) (q := 0) HRow.out (Nat.le_refl _) ho4 (new_at (hat4.imp id (Or.imp_left Eq.symm)) ho3.2.size (new_at (hat3.imp id (Or.imp_left Eq.symm)) ho2.2.size hz1)))
      clear ho4 ho3 ho2 hg2 hr2 hat3 hat4
      refine tH 12 (h := ?_)
      refine wpAnyH_done (by kernel_rfl) ?_ _
      refine NoPanic.normal ?_
      go_wp2_with fail
      exact hfin
    rotate_left 1
    focus
      go_simp
      have bB := bD.alloc (Nat.le_refl _) (.cells #[.int .u64 h, .slice none 0 0] 93)
      have hg0 : (w3.drew.alloc (.cells #[.int .u64 h, .slice none 0 0] 93)).heap[w3.heap.size]? = some (.cells (encBk (newBk h)).toArray 93 (0, 0)) := blk_new rfl
      refine hK.out _ _ trivial (fun hHeld => ?_)
      clear hK K
      try simp only [List.getElem_toArray, List.getElem_cons_zero, List.getElem_cons_succ, Act.put, List.setIfInBounds_toArray, List.set_cons_zero, List.set_cons_succ]
      refine wpAnyH_ready (rs := [3]) (by kernel_rfl) (by simp) ?_
      refine AllReadyH.cons rfl (fun K hK => ?_) AllReadyH.nil
      refine wp_append_va (.const (.slice none 0 0)) (.tmp 89) 59 (by rfl) 93 (.agg #[.int .u64 0, .slice none 0 0]) 2 32 encBk (fun _ => rfl) one_encBk Tryz.underlying59 infoBk rfl (by decide) (by decide) (w0 := w3) (v := .slice none 0 0) (A := []) (B := ([] : List BkV)) (by rfl) (OwnV.nil bB) (by rfl) (rb_nil bB) (by first | omega | (simp; done) | (simp; omega)) ?_; intro v1 w4 ho2 hk2 hz1' hat1; rw [List.nil_append] at ho2
      refine hK.out _ _ (trivial) (fun hHeld => ?_)
      clear hK K
      try simp only [List.getElem_toArray, List.getElem_cons_zero, List.getElem_cons_succ, Act.put, List.setIfInBounds_toArray, List.set_cons_zero, List.set_cons_succ]
      have hz1 : v1.ownBlock = none ∨ ∃ g, v1.ownBlock = some g ∧ w3.heap.size ≤ g := new_at (v := .slice none 0 0) (hat1.imp id (Or.imp_left Eq.symm)) bB.size (.inl rfl)
      have hg2 := hk2 _ _ (by simp [Value.ownBlock]) hg0
      clear hg0 bB hk2
      have hr2 : Reads _ 2 (.slice (some ⟨_, 0, none⟩) 1 1) [newBk h].length ([newBk h].flatMap encBk) := reads_block (size := 2) hg2 rfl
      refine wpAnyH_ready (rs := [7]) (by kernel_rfl) (by simp) ?_
      refine AllReadyH.cons rfl (fun K hK => ?_) AllReadyH.nil
      refine wp_append_va (.tmp 90) (.tmp 93) 59 (by rfl) 93 (.agg #[.int .u64 0, .slice none 0 0]) 2 32 encBk (fun _ => rfl) one_encBk Tryz.underlying59 infoBk rfl (by decide) (by decide) (w0 := w3) (v := v1) (A := ([] : List BkV)) (B := [newBk h]) (by rfl) (ho2) (by rfl) (hr2) (by first | omega | (simp; done) | (simp; omega)) ?_; intro v2 w5 ho3 _ _ hat3
      refine hK.out _ _ (trivial) (fun hHeld => ?_)
      clear hK K
      try simp only [List.getElem_toArray, List.getElem_cons_zero, List.getElem_cons_succ, Act.put, List.setIfInBounds_toArray, List.set_cons_zero, List.set_cons_succ]
      refine wpAnyH_ready (rs := [11]) (by kernel_rfl) (by simp) ?_
      refine AllReadyH.cons rfl (fun K hK => ?_) AllReadyH.nil
      refine wp_append_va (.tmp 94) (.tmp 97) 59 (by rfl) 93 (.agg #[.int .u64 0, .slice none 0 0]) 2 32 encBk (fun _ => rfl) one_encBk Tryz.underlying59 infoBk rfl (by decide) (by decide) (w0 := w3) (v := v2) (A := ([] : List BkV) ++ [newBk h]) (B := ([] : List BkV)) (by rfl) (ho3) (by rfl) (rb_nil ho3.2) (by first | omega | (simp; done) | (simp; omega)) ?_; intro v3 w6 ho4 _ _ hat4
      refine hK.out _ _ (trivial) (fun hHeld => ?_)
      clear hK K
      try simp only [List.getElem_toArray, List.getElem_cons_zero, List.getElem_cons_succ, Act.put, List.setIfInBounds_toArray, List.set_cons_zero, List.set_cons_succ]
      have hfin := Lib.hid (put_fin (C := []) (q := 0) HRow.out (Nat.le_refl _) ho4 (new_at (hat4.imp id (Or.imp_left Eq.symm)) ho3.2.size (new_at (hat3.imp id (Or.imp_left Eq.symm)) ho2.2.size hz1)))
      clear ho4 ho3 ho2 hg2 hr2 hat3 hat4
      refine tH 12 (h := ?_)
      refine wpAnyH_done (by kernel_rfl) ?_ _
      refine NoPanic.normal ?_
      go_wp2_with fail
      exact hfin
  · cases e0
    have hqc : (q : Int) ≤ (cv : Int) := by omega
    have hql : (q : Int) ≤ (C.length : Int) := by omega
    have hcm : cv ≤ 9223372036854775807 := by unfold maxLen at hc2; omega
    clear hc2
    go_wp2_with fail
    refine wp_region_noPanic ?_
    refine wp_region_held_drew (S := (fun w' => True)) (by kernel_rfl) (trivial) (fun hHeld => ?_)
    refine tH 0 (h := ?_)
    refine tH 1 (h := ?_)
    refine tH 2 (h := ?_)
    refine tH 4 (h := ?_)
    refine tH 5 (h := ?_)
    refine tH 8 (h := ?_)
    refine tH 9 (h := ?_)
    refine tH 10 (h := ?_)
    have bD : Below w3.heap.size w3 w3.drew := (Below.refl _ _).drew
    refine wpAnyH_ready (rs := [3, 6]) (by kernel_rfl) (by simp) ?_
    refine AllReadyH.cons rfl (fun K hK => ?_) (AllReadyH.cons rfl (fun K hK => ?_) AllReadyH.nil)
    focus
      refine wp_append_va (.const (.slice none 0 0)) (.tmp 89) 59 (by rfl) 93 (.agg #[.int .u64 0, .slice none 0 0]) 2 32 encBk (fun _ => rfl) one_encBk Tryz.underlying59 infoBk rfl (by decide) (by decide) (w0 := w3) (v := .slice none 0 0) (A := []) (B := C.take q) (by rfl) (OwnV.nil bD) (by rfl) (rb1_of hq HRow.out bD) (by first | omega | (simp; done) | (simp; omega)) ?_
      intro v1 w4 ho1 _ hz1' hat1
      rw [List.nil_append] at ho1
      refine hK.out _ _ trivial (fun hHeld => ?_)
      clear hK K
      try simp only [List.getElem_toArray, List.getElem_cons_zero, List.getElem_cons_succ, Act.put, List.setIfInBounds_toArray, List.set_cons_zero, List.set_cons_succ]
      have hz1 : v1.ownBlock = none ∨ ∃ g, v1.ownBlock = some g ∧ w3.heap.size ≤ g := new_at (v := .slice none 0 0) (hat1.imp id (Or.imp_left Eq.symm)) bD.size (.inl rfl)
      refine wpAnyH_ready (rs := [6]) (by kernel_rfl) (by simp) ?_
      refine AllReadyH.cons rfl (fun K hK => ?_) AllReadyH.nil
      go_simp
      skip
      refine hK.out _ _ (trivial) (fun hHeld => ?_)
      clear hK K
      try simp only [List.getElem_toArray, List.getElem_cons_zero, List.getElem_cons_succ, Act.put, List.setIfInBounds_toArray, List.set_cons_zero, List.set_cons_succ]
      have bB := (Below.refl w4.heap.size w4).alloc (Nat.le_refl _) (.cells #[.int .u64 h, .slice none 0 0] 93)
      have ho2 := OwnV.below ho1 bB
      have hg2 : (w4.alloc (.cells #[.int .u64 h, .slice none 0 0] 93)).heap[w4.heap.size]? = some (.cells (encBk (newBk h)).toArray 93 (0, 0)) := blk_new rfl
      clear ho1 bB
      have hr2 : Reads _ 2 (.slice (some ⟨_, 0, none⟩) 1 1) [newBk h].length ([newBk h].flatMap encBk) := reads_block (size := 2) hg2 rfl
      refine wpAnyH_ready (rs := [7]) (by kernel_rfl) (by simp) ?_
      refine AllReadyH.cons rfl (fun K hK => ?_) AllReadyH.nil
      refine wp_append_va (.tmp 90) (.tmp 93) 59 (by rfl) 93 (.agg #[.int .u64 0, .slice none 0 0]) 2 32 encBk (fun _ => rfl) one_encBk Tryz.underlying59 infoBk rfl (by decide) (by decide) (w0 := w3) (v := v1) (A := C.take q) (B := [newBk h]) (by rfl) (ho2) (by rfl) (hr2) (by first | omega | (simp; done) | (simp; omega)) ?_; intro v2 w5 ho3 _ _ hat3
      refine hK.out _ _ (trivial) (fun hHeld => ?_)
      clear hK K
      try simp only [List.getElem_toArray, List.getElem_cons_zero, List.getElem_cons_succ, Act.put, List.setIfInBounds_toArray, List.set_cons_zero, List.set_cons_succ]
      refine wpAnyH_ready (rs := [11]) (by kernel_rfl) (by simp) ?_
      refine AllReadyH.cons rfl (fun K hK => ?_) AllReadyH.nil
      refine wp_append_va (.tmp 94) (.tmp 97) 59 (by rfl) 93 (.agg #[.int .u64 0, .slice none 0 0]) 2 32 encBk (fun _ => rfl) one_encBk Tryz.underlying59 infoBk rfl (by decide) (by decide) (w0 := w3) (v := v2) (A := C.take q ++ [newBk h]) (B := C.drop q) (by rfl) (ho3) (by rfl) (rb2_of hq HRow.out ho3.2) (by first | omega | (simp; done) | (simp; omega)) ?_; intro v3 w6 ho4 _ _ hat4
      refine hK.out _ _ (trivial) (fun hHeld => ?_)
      clear hK K
      try simp only [List.getElem_toArray, List.getElem_cons_zero, List.getElem_cons_succ, Act.put, List.setIfInBounds_toArray, List.set_cons_zero, List.set_cons_succ]
      have hfin := Lib.hid (put_fin HRow.out hq ho4 (new_at (hat4.imp id (Or.imp_left Eq.symm)) ho3.2.size (new_at (hat3.imp id (Or.imp_left Eq.symm)) ho2.2.size hz1)))
      clear ho4 ho3 ho2 hg2 hr2 hat3 hat4
      refine tH 12 (h := ?_)
      refine wpAnyH_done (by kernel_rfl) ?_ _
      refine NoPanic.normal ?_
      go_wp2_with fail
      exact hfin
    rotate_left 1
    focus
      go_simp
      have bB := bD.alloc (Nat.le_refl _) (.cells #[.int .u64 h, .slice none 0 0] 93)
      have hg0 : (w3.drew.alloc (.cells #[.int .u64 h, .slice none 0 0] 93)).heap[w3.heap.size]? = some (.cells (encBk (newBk h)).toArray 93 (0, 0)) := blk_new rfl
      refine hK.out _ _ trivial (fun hHeld => ?_)
      clear hK K
      try simp only [List.getElem_toArray, List.getElem_cons_zero, List.getElem_cons_succ, Act.put, List.setIfInBounds_toArray, List.set_cons_zero, List.set_cons_succ]
      refine wpAnyH_ready (rs := [3]) (by kernel_rfl) (by simp) ?_
      refine AllReadyH.cons rfl (fun K hK => ?_) AllReadyH.nil
      refine wp_append_va (.const (.slice none 0 0)) (.tmp 89) 59 (by rfl) 93 (.agg #[.int .u64 0, .slice none 0 0]) 2 32 encBk (fun _ => rfl) one_encBk Tryz.underlying59 infoBk rfl (by decide) (by decide) (w0 := w3) (v := .slice none 0 0) (A := []) (B := C.take q) (by rfl) (OwnV.nil bB) (by rfl) (rb1_of hq HRow.out bB) (by first | omega | (simp; done) | (simp; omega)) ?_; intro v1 w4 ho2 hk2 hz1' hat1; rw [List.nil_append] at ho2
      refine hK.out _ _ (trivial) (fun hHeld => ?_)
      clear hK K
      try simp only [List.getElem_toArray, List.getElem_cons_zero, List.getElem_cons_succ, Act.put, List.setIfInBounds_toArray, List.set_cons_zero, List.set_cons_succ]
      have hz1 : v1.ownBlock = none ∨ ∃ g, v1.ownBlock = some g ∧ w3.heap.size ≤ g := new_at (v := .slice none 0 0) (hat1.imp id (Or.imp_left Eq.symm)) bB.size (.inl rfl)
      have hg2 := hk2 _ _ (by simp [Value.ownBlock]) hg0
      clear hg0 bB hk2
      have hr2 : Reads _ 2 (.slice (some ⟨_, 0, none⟩) 1 1) [newBk h].length ([newBk h].flatMap encBk) := reads_block (size := 2) hg2 rfl
      refine wpAnyH_ready (rs := [7]) (by kernel_rfl) (by simp) ?_
      refine AllReadyH.cons rfl (fun K hK => ?_) AllReadyH.nil
      refine wp_append_va (.tmp 90) (.tmp 93) 59 (by rfl) 93 (.agg #[.int .u64 0, .slice none 0 0]) 2 32 encBk (fun _ => rfl) one_encBk Tryz.underlying59 infoBk rfl (by decide) (by decide) (w0 := w3) (v := v1) (A := C.take q) (B := [newBk h]) (by rfl) (ho2) (by rfl) (hr2) (by first | omega | (simp; done) | (simp; omega)) ?_; intro v2 w5 ho3 _ _ hat3
      refine hK.out _ _ (trivial) (fun hHeld => ?_)
      clear hK K
      try simp only [List.getElem_toArray, List.getElem_cons_zero, List.getElem_cons_succ, Act.put, List.setIfInBounds_toArray, List.set_cons_zero, List.set_cons_succ]
      refine wpAnyH_ready (rs := [11]) (by kernel_rfl) (by simp) ?_
      refine AllReadyH.cons rfl (fun K hK => ?_) AllReadyH.nil
      refine wp_append_va (.tmp 94) (.tmp 97) 59 (by rfl) 93 (.agg #[.int .u64 0, .slice none 0 0]) 2 32 encBk (fun _ => rfl) one_encBk Tryz.underlying59 infoBk rfl (by decide) (by decide) (w0 := w3) (v := v2) (A := C.take q ++ [newBk h]) (B := C.drop q) (by rfl) (ho3) (by rfl) (rb2_of hq HRow.out ho3.2) (by first | omega | (simp; done) | (simp; omega)) ?_; intro v3 w6 ho4 _ _ hat4
      refine hK.out _ _ (trivial) (fun hHeld => ?_)
      clear hK K
      try simp only [List.getElem_toArray, List.getElem_cons_zero, List.getElem_cons_succ, Act.put, List.setIfInBounds_toArray, List.set_cons_zero, List.set_cons_succ]
      have hfin := Lib.hid (put_fin HRow.out hq ho4 (new_at (hat4.imp id (Or.imp_left Eq.symm)) ho3.2.size (new_at (hat3.imp id (Or.imp_left Eq.symm)) ho2.2.size hz1)))
      clear ho4 ho3 ho2 hg2 hr2 hat3 hat4
      refine tH 12 (h := ?_)
      refine wpAnyH_done (by kernel_rfl) ?_ _
      refine NoPanic.normal ?_
      go_wp2_with fail
      exact hfin
end
section
set_option maxRecDepth 100000
open Go.RowKit
def RAdded (W : World) (g cap : Nat) (C : List BkV) (at_ : Nat) (ht : at_ < C.length) (id : Int) (wx : World) : Prop := ∃ a m c, BRow W (.slice (some ⟨g, 0, none⟩) C.length cap) (C.set at_ ⟨C[at_].h, a, m, c, C[at_].ids ++ [id]⟩) wx
set_option maxHeartbeats 8000000 in
theorem rid_add (W wc : World) (g cap : Nat) (C : List BkV) (at_ : Nat) (ht : at_ < C.length) (rb ro n rc j : Nat) (id : Int) (HRow' : Hid (BRow W (.slice (some ⟨g, 0, none⟩) C.length cap) C wc)) (hl' : C.length ≤ 1001) (hxl : C[at_].ids.length ≤ 1000) (hj : j < n) (hn : n ≤ 1000) (hrc : wc.cell? ⟨rb, ro + j * 3, none⟩ = some (.int .i64 id)) (sl0 sl1 sl2 sl3 sl5 sl6 sl7 sl8 sl9 sl10 sl11 sl12 sl13 sl16 sl17 sl19 sl20 sl21 sl22 sl23 sl24 sl25 sl26 sl27 sl28 sl29 sl30 sl31 sl32 sl33 sl34 sl35 sl36 sl37 sl38 sl39 sl40 sl41 sl42 sl43 sl44 sl45 sl46 sl47 sl48 sl49 sl50 sl51 sl52 sl53 sl54 sl55 sl56 sl57 sl58 sl59 sl60 sl61 sl62 sl63 sl64 sl65 sl66 sl67 sl68 sl69 sl70 sl71 sl72 sl73 sl74 sl75 sl76 sl77 sl78 sl79 sl80 sl81 sl82 sl83 sl84 sl85 sl86 sl87 sl88 sl89 sl90 sl91 sl92 sl93 sl94 sl95 sl96 sl97 sl98 sl99 sl100 sl101 sl102 sl103 sl104 sl105 sl106 sl107 sl108 sl109 sl110 sl111 sl112 sl113 sl114 sl115 : Value) (K : Act → World → Prop) (Q' : Exit → Act → World → Prop)
    (hK : ∀ (tl99 tl100 tl101 tl102 tl103 tl104 tl105 tl106 tl107 tl108 tl109 tl110 tl111 tl112 tl113 tl114 : Value) (wx : World), Hid (RAdded W g cap C at_ ht id wx) → K ⟨List.toArray (sl0 :: sl1 :: sl2 :: sl3 :: .slice (some ⟨rb, ro, none⟩) n rc :: sl5 :: sl6 :: sl7 :: sl8 :: sl9 :: sl10 :: sl11 :: sl12 :: sl13 :: .slice (some ⟨g, 0, none⟩) C.length cap :: .int .i64 j :: sl16 :: sl17 :: .int .i64 at_ :: sl19 :: sl20 :: sl21 :: sl22 :: sl23 :: sl24 :: sl25 :: sl26 :: sl27 :: sl28 :: sl29 :: sl30 :: sl31 :: sl32 :: sl33 :: sl34 :: sl35 :: sl36 :: sl37 :: sl38 :: sl39 :: sl40 :: sl41 :: sl42 :: sl43 :: sl44 :: sl45 :: sl46 :: sl47 :: sl48 :: sl49 :: sl50 :: sl51 :: sl52 :: sl53 :: sl54 :: sl55 :: sl56 :: sl57 :: sl58 :: sl59 :: sl60 :: sl61 :: sl62 :: sl63 :: sl64 :: sl65 :: sl66 :: sl67 :: sl68 :: sl69 :: sl70 :: sl71 :: sl72 :: sl73 :: sl74 :: sl75 :: sl76 :: sl77 :: sl78 :: sl79 :: sl80 :: sl81 :: sl82 :: sl83 :: sl84 :: sl85 :: sl86 :: sl87 :: sl88 :: sl89 :: sl90 :: sl91 :: sl92 :: sl93 :: sl94 :: sl95 :: sl96 :: sl97 :: sl98 :: tl99 :: tl100 :: tl101 :: tl102 :: tl103 :: tl104 :: tl105 :: tl106 :: tl107 :: tl108 :: tl109 :: tl110 :: tl111 :: tl112 :: tl113 :: tl114 :: sl115 :: []), []⟩ wx) :
    (regOf Tryz.f20 20).wp Tryz.prog (Exit.inBlock 1 (Exit.then K Q')) ⟨List.toArray (sl0 :: sl1 :: sl2 :: sl3 :: .slice (some ⟨rb, ro, none⟩) n rc :: sl5 :: sl6 :: sl7 :: sl8 :: sl9 :: sl10 :: sl11 :: sl12 :: sl13 :: .slice (some ⟨g, 0, none⟩) C.length cap :: .int .i64 j :: sl16 :: sl17 :: .int .i64 at_ :: sl19 :: sl20 :: sl21 :: sl22 :: sl23 :: sl24 :: sl25 :: sl26 :: sl27 :: sl28 :: sl29 :: sl30 :: sl31 :: sl32 :: sl33 :: sl34 :: sl35 :: sl36 :: sl37 :: sl38 :: sl39 :: sl40 :: sl41 :: sl42 :: sl43 :: sl44 :: sl45 :: sl46 :: sl47 :: sl48 :: sl49 :: sl50 :: sl51 :: sl52 :: sl53 :: sl54 :: sl55 :: sl56 :: sl57 :: sl58 :: sl59 :: sl60 :: sl61 :: sl62 :: sl63 :: sl64 :: sl65 :: sl66 :: sl67 :: sl68 :: sl69 :: sl70 :: sl71 :: sl72 :: sl73 :: sl74 :: sl75 :: sl76 :: sl77 :: sl78 :: sl79 :: sl80 :: sl81 :: sl82 :: sl83 :: sl84 :: sl85 :: sl86 :: sl87 :: sl88 :: sl89 :: sl90 :: sl91 :: sl92 :: sl93 :: sl94 :: sl95 :: sl96 :: sl97 :: sl98 :: sl99 :: sl100 :: sl101 :: sl102 :: sl103 :: sl104 :: sl105 :: sl106 :: sl107 :: sl108 :: sl109 :: sl110 :: sl111 :: sl112 :: sl113 :: sl114 :: sl115 :: []), []⟩ wc := by
  conv => arg 2; whnf
  have hrow' := HRow'.out
  rcases hrow'.own.1.2 with ⟨_, h0⟩ | ⟨g', cap', cur, e0, hg, hgc, hn1, hn2, hn3, hn4⟩
  · have : C.length = 0 := h0
    omega
  cases e0
  obtain ⟨x, hx⟩ : ∃ x, C[at_] = x := ⟨_, rfl⟩
  have hids := hrow'.ids _ (List.getElem_mem ht)
  have hc1 : wc.cell? ⟨g, at_ * 2 + 1, none⟩ = some (idV C[at_]) := by
    obtain ⟨b0, o0, e0, _, hc⟩ := (OwnV.vec (size := 2) (enc := encBk) (fun _ => rfl) hrow'.own).get at_ ht
    cases e0
    have := hc 1 _ rfl
    rwa [Nat.zero_add] at this
  rw [hx] at hids hc1 hxl
  obtain ⟨xh, xa, xn, xc, xi⟩ := x
  dsimp only [idV] at hids hc1
  have hxil : xi.length ≤ 1000 := hxl
  have hfr := (frozen_of_row _ _ _ _ _ hgc : wc.frozen? ⟨g, at_ * 2 + 1, none⟩ = false)
  have lgc := lt_of_blk hgc
  have lyc : rb < wc.heap.size := block_lt_of_cell hrc
  have HIds := Lib.hid hids; have HX := Lib.hid hx
  have htn : (at_ : Int) < (C.length : Int) := by omega
  have hjn : (j : Int) < (n : Int) := by omega
  obtain ⟨i0, hi0, hz0, hz1, hz2⟩ := info_parts infoIn
  have HI := Lib.hid hi0; have HZ0 := Lib.hid hz0; have HZ1 := Lib.hid hz1; have HZ2 := Lib.hid hz2
  have hoff := hrow'.off _ (List.getElem_mem ht)
  rw [hx] at hoff
  have hWc := hrow'.own.2
  have HWc := Lib.hid hWc
  have hWz := hWc.size
  have HOff := Lib.hid (show some g ≠ (Value.slice xa xn xc).ownBlock from by
    rcases hoff with h1 | h1
    · rw [show (Value.slice xa xn xc).ownBlock = none from h1]; simp
    · exact fun e => h1 (by rw [show (idV ⟨xh, xa, xn, xc, xi⟩).ownBlock = some g from e.symm]; rfl))
  clear hgc hn1 hn2 hn3 hn4 hrow' hids hx hi0 hz0 hz1 hz2 hoff hWc hxl
  have bA := ((Below.refl wc.heap.size wc).drew).alloc (Nat.le_refl _) (.cells #[.int .i64 id] 3)
  have hown := own_below HIds.out bA
  have hnews : ∀ j u, [Value.int .i64 id][j]? = some u → ((wc.drew).alloc (.cells #[.int .i64 id] 3)).cell? ((⟨wc.heap.size, 0, none⟩ : Addr).add j) = some u := fun j u hu => by
    have hX : ((wc.drew).alloc (.cells #[.int .i64 id] 3)).heap[wc.heap.size]? = some (.cells #[.int .i64 id] 3 (0, 0)) := blk_new rfl
    rw [add_plain, cell_of_row _ _ _ _ _ _ hX, Nat.zero_add]; simpa using hu
  have hone : ∀ u ∈ [Value.int .i64 id], u.oneCell' = true := by intro u hu; simp at hu; subst hu; rfl
  go_wp2_with fail
  refine wp_region_noPanic ?_
  refine wp_region_k (by kernel_rfl) (fun w' => w'.cell? ⟨g, at_ * 2 + 1, none⟩ = some (.slice xa xn xc) ∧ w'.cell? ⟨rb, ro + j * 3, none⟩ = some (.int .i64 id)) 13 (⟨hc1, hrc⟩) (fun hHeld => ?_)
  refine t0 0 (h := ?_)
  refine t0 1 (h := ?_)
  refine tK 2 (h := ?_)
  refine tK 3 (h := ?_)
  refine tK 4 (h := ?_)
  refine tK 5 (h := ?_)
  refine tK 6 (h := ?_)
  refine tK 7 (h := ?_)
  refine tK 8 (h := ?_)
  refine tK 9 (h := ?_)
  refine tK 10 (h := ?_)
  refine tK 11 (h := ?_)
  refine wpAnyK_ready (rs := [12]) (by kernel_rfl) (by simp) ?_
  refine AllReadyK.cons rfl (fun K hK => ?_) AllReadyK.nil
  go_simp
  skip
  refine shutK hK (⟨(bA.cell (p := ⟨g, at_ * 2 + 1, none⟩) lgc).trans hc1, (bA.cell (p := ⟨rb, ro + j * 3, none⟩) lyc).trans hrc⟩) (fun hHeld => ?_)
  clear hK K
  try simp only [List.getElem_toArray, List.getElem_cons_zero, List.getElem_cons_succ, Act.put, List.setIfInBounds_toArray, List.set_cons_zero, List.set_cons_succ]
  refine wpAnyK_ready (rs := [13]) (by kernel_rfl) (by simp) ?_
  refine AllReadyK.cons rfl (fun K hK => ?_) AllReadyK.nil
  refine wp_append_lies _ (.tmp 105) (.tmp 111) 22 (by rfl) W.heap.size 3 i0 (.int .i64 0) 1 8 Tryz.underlying22 HI.out HZ0.out HZ1.out HZ2.out rfl (by decide) (.slice xa xn xc) xi.length (xi.map (Value.int .i64)) (by rfl) hown ⟨wc.heap.size, 0, none⟩ 1 1 [.int .i64 id] (by rfl) rfl hnews hone (by omega) (by unfold maxLen; omega) (by omega) (by simp; omega) (wc.heap.size + 1) (by simp) ?_; intro g5 cap5 w5 hown5 hg5 hat5 hlt5; have cY5 : w5.cell? ⟨g, at_ * 2 + 1, none⟩ = some (.slice xa xn xc) := (hg5.cell_far ⟨g, at_ * 2 + 1, none⟩ (by simp; omega) HOff.out).trans ((bA.cell (p := ⟨g, at_ * 2 + 1, none⟩) lgc).trans hc1); have fY5 : w5.frozen? ⟨g, at_ * 2 + 1, none⟩ = false := (hg5.frozen_far ⟨g, at_ * 2 + 1, none⟩ (by simp; omega) HOff.out).trans ((bA.frozen (p := ⟨g, at_ * 2 + 1, none⟩) lgc).trans hfr)
  refine shutK_off hK (by decide) ?_
  clear hK K
  try simp only [List.getElem_toArray, List.getElem_cons_zero, List.getElem_cons_succ, Act.put, List.setIfInBounds_toArray, List.set_cons_zero, List.set_cons_succ]
  have hrA := (HRow'.out.below bA).add at_ ht g rfl (.slice (some ⟨g5, 0, none⟩) (xi.length + 1) cap5) id _ _ _ rfl (w1 := w5) (by rw [HX.out, List.map_append]; exact hown5) (by rw [HX.out]; exact fun k o hk hko => (hg5.block k (lt_of_blk hko) hk).trans hko)
    ((HWc.out.trans (bA.mono hWz)).grown hg5 (Nat.le_trans hWz bA.size) (fun q hq => ((own_below' HIds.out bA).lt q hq).1)) (by
      rw [HX.out]
      rcases hat5 with h1 | h1
      · exact .inl h1
      · exact .inr (by rw [h1]; simp [Value.ownBlock]))
  have HRA := Lib.hid (show RAdded W g cap C at_ ht id _ from ⟨_, _, _, hrA⟩)
  clear hrA hown5 hg5 hat5 hown hnews hone bA
  refine wpAnyK_ready (rs := [14]) (by kernel_rfl) (by simp) ?_
  refine AllReadyK.cons rfl (fun K hK => ?_) AllReadyK.nil
  go_simp
  skip
  refine shutK_off hK (by decide) ?_
  clear hK K
  try simp only [List.getElem_toArray, List.getElem_cons_zero, List.getElem_cons_succ, Act.put, List.setIfInBounds_toArray, List.set_cons_zero, List.set_cons_succ]
  refine wpAnyK_ready (rs := [15]) (by kernel_rfl) (by simp) ?_
  refine AllReadyK.cons rfl (fun K hK => ?_) AllReadyK.nil
  go_simp
  skip
  refine shutK_off hK (by decide) ?_
  clear hK K
  try simp only [List.getElem_toArray, List.getElem_cons_zero, List.getElem_cons_succ, Act.put, List.setIfInBounds_toArray, List.set_cons_zero, List.set_cons_succ]
  refine wpAnyK_ready (rs := [16]) (by kernel_rfl) (by simp) ?_
  refine AllReadyK.cons rfl (fun K hK => ?_) AllReadyK.nil
  go_simp
  skip
  refine shutK_off hK (by decide) ?_
  clear hK K
  try simp only [List.getElem_toArray, List.getElem_cons_zero, List.getElem_cons_succ, Act.put, List.setIfInBounds_toArray, List.set_cons_zero, List.set_cons_succ]
  refine wpAnyK_done (by kernel_rfl) ?_ _
  refine NoPanic.normal ?_
  go_wp2_with fail
  exact HRA
end
section
set_option maxRecDepth 100000
open Go.RowKit
set_option maxHeartbeats 4000000 in
theorem rBlocks_key (S T : Nat → Prop) (vf vt vn vs kv rv : Value) (s : SchemaL) (k : Int × Int) (Ks : List (List (Int × Int))) (i e : Int) (R : List RecL) (w : World) (h : SchemaAt w S vf vt vn vs s) (hk : KeysVec w T kv Ks) (hr : RecsVec w Any1 rv R) (hc : checkS s = 0) (hn : s.fields.length ≤ 1000) (hl : Ks.length ≤ 1000000) (hK : ∀ K ∈ Ks, K.length ≤ 1000000) (hce : checkKI s.fields Ks i = e) (he : e ≠ 0) :
    Calls Tryz.prog 20 #[.agg #[vf, vt, vn, vs], .agg #[.int .u64 k.1, .int .u64 k.2], kv, .int .i64 i, rv] w (BlocksXPost ([], e) w) := by
  obtain ⟨ak, ck, rfl⟩ := hk.slice
  obtain ⟨ar, cr, rfl⟩ := hr.slice
  obtain ⟨c, hcc⟩ : ∃ c, checkK s.fields Ks = c := ⟨_, rfl⟩
  have HS := Lib.hid h; have HKv := Lib.hid hk; have HC := Lib.hid hc; have HKl := Lib.hid hK; have HCc := Lib.hid hcc; have HCe := Lib.hid hce
  have dz : ((0 : Int) != 0) = false := rfl
  clear h hk hr hc hK hce hcc
  go_enter Tryz.func20, Tryz.ntmps20
  go_wp2_with fail
  refine wp_calls_world (fun W hW => ?_)
  have hb0 : Below w.heap.size w W := by rw [hW]; exact ((Below.refl w.heap.size w).alloc (Nat.le_refl _) _).alloc (by simp) _
  clear hW
  refine (rbchk_any S T _ _ _ _ _ s Ks W (HS.out.below hb0) (HKv.out.below hb0) HC.out (by omega) hl HKl.out).mono ?_
  rw [HCc.out]
  rintro e1 w1 ⟨rfl, hb⟩
  have HB1 := Lib.hid (hb0.trans (hb.mono hb0.size))
  clear hb0 hb
  have hE0 := HCe.out
  by_cases hc0 : c = 0
  · subst hc0
    have he2 : e = 2 ∧ (i < 0 ∨ (Ks.length : Int) ≤ i) := by
      unfold checkKI at hE0
      rw [if_pos HCc.out] at hE0
      split at hE0
      · next h2 => exact ⟨hE0.symm, by omega⟩
      · exact absurd hE0.symm he
    obtain ⟨rfl, hor⟩ := he2
    clear hE0
    by_cases hi0 : i < 0
    · have d0 : decide (i < 0) = true := decide_eq_true hi0
      go_wp2_with fail
      go_ret2
      exact ⟨_, rfl, BlocksAt.nil _ _, HB1.out⟩
    · have d0 : decide (i < 0) = false := decide_eq_false hi0
      obtain ⟨n, rfl⟩ := Int.eq_ofNat_of_zero_le (show 0 ≤ i by omega)
      have hj : (Ks.length : Int) ≤ (n : Int) := by omega
      have d1 : decide ((Ks.length : Int) ≤ (n : Int)) = true := decide_eq_true hj
      have d1n : decide (Ks.length ≤ n) = true := decide_eq_true (by omega)
      go_wp2_with fail
      go_ret2
      exact ⟨_, rfl, BlocksAt.nil _ _, HB1.out⟩
  · have hec : e = c := by
      unfold checkKI at hE0
      rw [if_neg (by rw [HCc.out]; exact hc0), HCc.out] at hE0
      exact hE0.symm
    subst hec
    have dne : (e != (0 : Int)) = true := by simpa using he
    clear hE0
    go_wp2_with fail
    go_ret2
    exact ⟨_, rfl, BlocksAt.nil _ _, HB1.out⟩
set_option maxHeartbeats 4000000 in
theorem rBlocks_rec (S T : Nat → Prop) (vf vt vn vs kv rv : Value) (s : SchemaL) (k : Int × Int) (Ks : List (List (Int × Int))) (n : Nat) (e : Int) (R : List RecL) (w : World) (h : SchemaAt w S vf vt vn vs s) (hk : KeysVec w T kv Ks) (hr : RecsVec w Any1 rv R) (hc : checkS s = 0) (hs : ∀ r ∈ R, ∀ x ∈ r.vals, x.length ≤ 1000000) (hvn : ∀ r ∈ R, r.vals.length ≤ 1000000) (hRl : R.length ≤ 1000000) (hn : s.fields.length ≤ 1000) (hl : Ks.length ≤ 1000000) (hK : ∀ K ∈ Ks, K.length ≤ 1000000) (hck : checkK s.fields Ks = 0) (hnk : n < Ks.length) (hce : allN s R = e) (he : e ≠ 0) :
    Calls Tryz.prog 20 #[.agg #[vf, vt, vn, vs], .agg #[.int .u64 k.1, .int .u64 k.2], kv, .int .i64 n, rv] w (BlocksXPost ([], e) w) := by
  obtain ⟨ak, ck, rfl⟩ := hk.slice
  obtain ⟨ar, cr, rfl⟩ := hr.slice
  have HS := Lib.hid h; have HKv := Lib.hid hk; have HV := Lib.hid hr; have HC := Lib.hid hc; have HKl := Lib.hid hK; have HCc := Lib.hid hck; have HCe := Lib.hid hce; have HSh := Lib.hid hs; have HVn := Lib.hid hvn
  have dz : ((0 : Int) != 0) = false := rfl
  have dne : (e != (0 : Int)) = true := by simpa using he
  have d0 : decide ((n : Int) < 0) = false := decide_eq_false (by omega)
  have d1 : decide ((Ks.length : Int) ≤ (n : Int)) = false := decide_eq_false (by omega)
  have d1n : decide (Ks.length ≤ n) = false := decide_eq_false (by omega)
  clear h hk hr hc hs hvn hK hck hce
  go_enter Tryz.func20, Tryz.ntmps20
  go_wp2_with fail
  refine wp_calls_world (fun W hW => ?_)
  have hb0 : Below w.heap.size w W := by rw [hW]; exact ((Below.refl w.heap.size w).alloc (Nat.le_refl _) _).alloc (by simp) _
  have hs0 : W.heap[w.heap.size]? = some (.cells #[vf, vt, vn, vs] 43 (0, 0)) := by rw [hW]; exact blk_old (blk_new rfl)
  clear hW
  refine (rbchk_any S T _ _ _ _ _ s Ks W (HS.out.below hb0) (HKv.out.below hb0) HC.out (by omega) hl HKl.out).mono ?_
  rw [HCc.out]
  rintro e1 w1 ⟨rfl, hb⟩
  have HB1 := Lib.hid (hb0.trans (hb.mono hb0.size))
  obtain ⟨s0, s1, s2, s3⟩ := cellsS (blk_below hb (lt_of_blk hs0) hs0)
  clear hb0 hb hs0
  go_wp2_with fail
  refine (rrall_any S Any1 _ _ _ _ _ s R w1 (HS.out.below HB1.out) (HV.out.below HB1.out) HSh.out HVn.out hRl).mono ?_
  rw [HCe.out]
  rintro e2 w2 ⟨rfl, hb⟩
  have HB2 := Lib.hid (HB1.out.trans (hb.mono HB1.out.size))
  clear hb s0 s1 s2 s3
  go_wp2_with fail
  go_ret2
  exact ⟨_, rfl, BlocksAt.nil _ _, HB2.out⟩
end
section
set_option maxRecDepth 100000
open Go.RowKit
set_option maxHeartbeats 8000000 in
theorem rBlocks_yes (S T : Nat → Prop) (vf vt vn vs kv rv : Value) (s : SchemaL) (k : Int × Int) (Ks : List (List (Int × Int))) (i : Nat) (R : List RecL) (w : World) (h : SchemaAt w S vf vt vn vs s) (hk : KeysVec w T kv Ks) (hr : RecsVec w Any1 rv R) (hc : checkS s = 0) (hs : ∀ r ∈ R, ∀ x ∈ r.vals, x.length ≤ 1000000) (hvn : ∀ r ∈ R, r.vals.length ≤ 1000000) (hRl : R.length ≤ 1000) (hn : s.fields.length ≤ 1000) (hl : Ks.length ≤ 1000000) (hK : ∀ K ∈ Ks, K.length ≤ 1000000) (hck : checkK s.fields Ks = 0) (hi : i < Ks.length) (hall : allN s R = 0) :
    Calls Tryz.prog 20 #[.agg #[vf, vt, vn, vs], .agg #[.int .u64 k.1, .int .u64 k.2], kv, .int .i64 i, rv] w (BlocksXPost (blocksN k i (Ks.getD i []) R, 0) w) := by
  obtain ⟨ak, ck, rfl⟩ := hk.slice
  obtain ⟨ar, cr, rfl⟩ := hr.slice
  obtain ⟨K, hKd⟩ : ∃ K, Ks.getD i [] = K := ⟨_, rfl⟩
  rw [hKd]
  obtain ⟨G, hG⟩ : ∃ G, blocksN k i K R = G := ⟨_, rfl⟩
  rw [hG]
  have HG := Lib.hid hG
  have HS := Lib.hid h; have HKv := Lib.hid hk; have HV := Lib.hid hr; have HC := Lib.hid hc; have HKl := Lib.hid hK; have HCc := Lib.hid hck; have HCe := Lib.hid hall; have HSh := Lib.hid hs; have HVn := Lib.hid hvn; have HKd := Lib.hid hKd
  have HHash := Lib.hid (show ∀ W, Below w.heap.size w W → ∀ (r : RecL) (sv : Value), checkN s r = 0 → Vec W Any1 1 encS sv r.vals → Calls Tryz.prog 59 #[.agg #[vf, vt, vn, vs], .agg #[.int .u64 k.1, .int .u64 k.2], .slice ak Ks.length ck, .int .i64 i, .agg #[.int .i64 r.id, .int .i64 r.ver, sv]] W fun e w' => e = .returned (.tuple #[.int .u64 (bhashN k i (K.map (compN r.vals))).1, .bool (bhashN k i (K.map (compN r.vals))).2]) ∧ Below W.heap.size W w' from fun W hb r sv hcr hv => by
    have h1 := rhash_yes S T vf vt vn vs (.slice ak Ks.length ck) s k Ks i r sv W (HS.out.below hb) (HKv.out.below hb) hv hcr hn (checkK_ok HCc.out) hi
    rw [HKd.out] at h1
    exact h1)
  have dz : ((0 : Int) != 0) = false := rfl
  have d0 : decide ((i : Int) < 0) = false := decide_eq_false (by omega)
  have d1 : decide ((Ks.length : Int) ≤ (i : Int)) = false := decide_eq_false (by omega)
  have d1n : decide (Ks.length ≤ i) = false := decide_eq_false (by omega)
  clear h hk hr hc hs hvn hK hck hall hG hKd
  go_enter Tryz.func20, Tryz.ntmps20
  go_wp2_with fail
  refine wp_calls_world (fun W hW => ?_)
  have hb0 : Below w.heap.size w W := by rw [hW]; exact ((Below.refl w.heap.size w).alloc (Nat.le_refl _) _).alloc (by simp) _
  have hs0 : W.heap[w.heap.size]? = some (.cells #[vf, vt, vn, vs] 43 (0, 0)) := by rw [hW]; exact blk_old (blk_new rfl)
  have hk0 : W.heap[w.heap.size + 1]? = some (.cells #[.int .u64 k.1, .int .u64 k.2] 26 (0, 0)) := by rw [hW]; exact blk_new (by simp)
  clear hW
  refine (rbchk_any S T _ _ _ _ _ s Ks W (HS.out.below hb0) (HKv.out.below hb0) HC.out (by omega) hl HKl.out).mono ?_
  rw [HCc.out]
  rintro e1 w1 ⟨rfl, hb⟩
  have HB1 := Lib.hid (hb0.trans (hb.mono hb0.size))
  have HS1 := Lib.hid (blk_below hb (lt_of_blk hs0) hs0); have HK1 := Lib.hid (blk_below hb (lt_of_blk hk0) hk0)
  obtain ⟨s0, s1, s2, s3⟩ := cellsS HS1.out
  clear hb0 hb hs0 hk0
  go_wp2_with fail
  refine (rrall_any S Any1 _ _ _ _ _ s R w1 (HS.out.below HB1.out) (HV.out.below HB1.out) HSh.out HVn.out (by omega)).mono ?_
  rw [HCe.out]
  rintro e2 w2 ⟨rfl, hb⟩
  have HB2 := Lib.hid (HB1.out.trans (hb.mono HB1.out.size))
  have HS2 := Lib.hid (blk_below hb (lt_of_blk HS1.out) HS1.out); have HK2 := Lib.hid (blk_below hb (lt_of_blk HK1.out) HK1.out)
  clear hb s0 s1 s2 s3
  go_wp2_with fail
  go_loopw [14, 15] (fun v t wr => ∃ (j : Nat) (C : List BkV), t = .int .i64 j ∧ j ≤ R.length ∧ C.length ≤ j ∧ BRow w2 v C wr ∧ AscBk (C.map pB) ∧ Hid (∀ x ∈ C, x.ids.length ≤ j) ∧ Hid (addAll (C.map pB) ((R.drop j).map (blkPair k i K)) = G)) (fun _ t _ => R.length - (intOf t).toNat)
  case atStart => exact ⟨0, [], rfl, by omega, by simp, BRow.nil (Below.refl _ _), List.Pairwise.nil, Lib.hid (fun x hx => by simp at hx), HG⟩
  case round =>
    obtain ⟨j, C, rfl, hj, hCl, hrow, hasc, HLen, HT⟩ := hrel
    have HRow := Lib.hid hrow; have HAsc := Lib.hid hasc
    clear hrow hasc
    have hbw := HRow.out.own.2
    by_cases hlt : j < R.length
    · have hq : decide ((j : Int) < (R.length : Int)) = true := by simp; omega
      have hji : (j : Int) < (R.length : Int) := by omega
      have hbW := HB2.out.trans (hbw.mono HB2.out.size)
      have HBW := Lib.hid hbW
      obtain ⟨b, off, id, ver, aa, nn, cc, vals, rfl, lb, c0, c1, c2, hRj, hvv⟩ := (HV.out.below hbW).at j hlt
      obtain ⟨s0, s1, s2, s3⟩ := cellsS (blk_below hbw (lt_of_blk HS2.out) HS2.out)
      obtain ⟨k0, k1⟩ := cells2K (blk_below hbw (lt_of_blk HK2.out) HK2.out)
      have hcrj : checkN s R[j] = 0 := (allN_ok HCe.out).2.2 _ (List.getElem_mem hlt)
      rw [hRj] at hcrj
      have hT := HT.out
      rw [List.drop_eq_getElem_cons hlt, List.map_cons, hRj] at hT
      obtain ⟨⟨h, ok⟩, hh⟩ : ∃ p, bhashN k i (K.map (compN vals)) = p := ⟨_, rfl⟩
      have hT2 : addAll (if ok = true then addB (C.map pB) h id else C.map pB) ((R.drop (j + 1)).map (blkPair k i K)) = G := by
        rw [← hT]
        simp only [addAll, blkPair, hh]
      have HT2 := Lib.hid hT2
      have hcall := fun W' (hb : Below wr.heap.size wr W') => HHash.out W' (HBW.out.trans (hb.mono HBW.out.size)) ⟨id, ver, vals⟩ (.slice aa nn cc) hcrj (hvv.below hb)
      dsimp only at hcall
      rw [hh] at hcall
      dsimp only at hcall
      have cH := in_regrown wr hcall
      have p0 := cell_regrown s0; have p1 := cell_regrown s1; have p2 := cell_regrown s2; have p3 := cell_regrown s3; have p4 := cell_regrown k0; have p5 := cell_regrown k1; have p6 := cell_regrown c0; have p7 := cell_regrown c1; have p8 := cell_regrown c2
      have HC0 := Lib.hid c0
      clear hT hT2 hh hvv hcrj hRj HT hbW hcall
      have HBw := Lib.hid hbw
      clear hbw
      go_wp2_with fail
      refine wp_region_quiet_below (by kernel_rfl) (by kernel_rfl) ?_
      repeat (go_big_quiet_step (first | with_reducible exact cH _ _))
      refine wpQuiet_nil ?_
      intro w3 hw'
      have hb3 : Below wr.heap.size wr w3 := by
        obtain ⟨⟨dq, osq⟩, hw''⟩ := hw'
        rw [hw'']; exact below_regrown wr dq osq
      have HRow3 := Lib.hid (HRow.out.below hb3)
      have hc3 := (hb3.cell (p := ⟨b, off + j * 3, none⟩) lb).trans HC0.out
      clear hw' hb3 cH p0 p1 p2 p3 p4 p5 p6 p7 p8 s0 s1 s2 s3 k0 k1 c0 c1 c2
      cases ok
      · have HT3 := Lib.hid (show addAll (C.map pB) ((R.drop (j + 1)).map (blkPair k i K)) = G by have := HT2.out; simpa using this)
        clear HT2
        go_wp2_with fail
        go_roundw
        case rel => exact ⟨j + 1, C, by go_num, by omega, by omega, HRow3.out, HAsc.out, Lib.hid (fun x hx => Nat.le_succ_of_le (HLen.out x hx)), HT3⟩
        case measure => simp [intOf]; omega
      · have HT3 := Lib.hid (show addAll (addB (C.map pB) h id) ((R.drop (j + 1)).map (blkPair k i K)) = G by have := HT2.out; simpa using this)
        clear HT2
        go_wp2_with fail
        obtain ⟨av, cv, rfl⟩ := own_slice HRow3.out.own.1
        go_loopw [18] (fun t wx => ∃ q : Nat, t = .int .i64 q ∧ q ≤ C.length ∧ Hid (∀ p, p < q → (C.getD p default).h < h) ∧ Hid (BRow w2 (.slice av C.length cv) C wx) ∧ wx.cell? ⟨b, off + j * 3, none⟩ = some (.int .i64 id)) (fun t _ => C.length - (intOf t).toNat)
        case atStart => exact ⟨0, rfl, by omega, Lib.hid (fun p hp => by omega), HRow3, hc3⟩
        case round =>
          obtain ⟨q, rfl, hqC, HLt, HRow4, hc4⟩ := hrel
          have HC4 := Lib.hid hc4
          clear hc4
          by_cases hq2 : q < C.length
          · have hq3 : decide ((q : Int) < (C.length : Int)) = true := by simp; omega
            have hq4 : decide ((q : Int) = (C.length : Int)) = false := by simp; omega
            have hq5 : (q : Int) < (C.length : Int) := by omega
            obtain ⟨g, o, e0, lg, hcg⟩ := (OwnV.vec (size := 2) (enc := encBk) (fun _ => rfl) HRow4.out.own).get q hq2
            cases e0
            have g0 := hcg 0 _ rfl
            rw [Nat.add_zero] at g0
            clear hcg
            by_cases hlt2 : C[q].h < h
            · have dl : decide (C[q].h < h) = true := decide_eq_true hlt2
              go_wp2_with fail
              go_roundw
              case rel =>
                refine ⟨q + 1, by go_num, by omega, Lib.hid (fun p hp => ?_), HRow4, HC4.out⟩
                by_cases hpq : p < q
                · exact HLt.out p hpq
                · obtain rfl : p = q := by omega
                  rw [getD_at _ _ hq2]; exact hlt2
              case measure => simp [intOf]; omega
            · have dl : decide (C[q].h < h) = false := decide_eq_false hlt2
              by_cases heq : C[q].h = h
              · have hne : (C[q].h != h) = false := by simp [heq]
                have hput2 : ∀ a m c, (C.set q ⟨C[q].h, a, m, c, C[q].ids ++ [id]⟩).map pB = addB (C.map pB) h id := fun a m c => put_at C q h id hq2 HLt.out (by rw [getD_at _ _ hq2]; exact heq) a m c
                have HPut := Lib.hid hput2
                clear hput2
                go_upto_if 86 with (fail)
                go_step
                go_step
                go_step
                go_step
                have hform := OwnV.form HRow4.out.own
                rcases hform with ⟨e0, e1⟩ | ⟨g5, cap5, e0, hx1, hx2, hx3⟩
                · rw [e1] at hq2; simp at hq2
                cases e0
                have hc5 := HC4.out
                clear hx1 hx2 hx3
                refine rid_add w2 _ g cv C q hq2 b off R.length cr j id HRow4 (by omega) (by have := HLen.out _ (List.getElem_mem hq2); omega) hlt hRl hc5 _ _ _ _ _ _ _ _ _ _ _ _ _ _ _ _ _ _ _ _ _ _ _ _ _ _ _ _ _ _ _ _ _ _ _ _ _ _ _ _ _ _ _ _ _ _ _ _ _ _ _ _ _ _ _ _ _ _ _ _ _ _ _ _ _ _ _ _ _ _ _ _ _ _ _ _ _ _ _ _ _ _ _ _ _ _ _ _ _ _ _ _ _ _ _ _ _ _ _ _ _ _ _ _ _ _ _ _ _ _ _ _ _ _ ?_
                intro tl99 tl100 tl101 tl102 tl103 tl104 tl105 tl106 tl107 tl108 tl109 tl110 tl111 tl112 tl113 tl114 wz hR2
                go_wp2_with fail
                obtain ⟨a, m, c, hrow6⟩ := hR2.out
                have HRow6 := Lib.hid hrow6
                clear hrow6
                go_roundw
                case rel =>
                  refine ⟨j + 1, C.set q ⟨C[q].h, a, m, c, C[q].ids ++ [id]⟩, by go_num, by omega, by rw [List.length_set]; omega, HRow6.out, ?_, ?_, ?_⟩
                  · rw [HPut.out a m c]; exact HAsc.out.add _ _
                  · refine Lib.hid fun x hx => ?_
                    rcases List.mem_or_eq_of_mem_set hx with h1 | h1
                    · exact Nat.le_succ_of_le (HLen.out x h1)
                    · rw [h1]; have := HLen.out _ (List.getElem_mem hq2); simp; omega
                  · exact Lib.hid (by rw [HPut.out a m c]; exact HT3.out)
                case measure => simp [intOf]; omega
              · have hne : (C[q].h != h) = true := by simpa using heq
                have HGt := Lib.hid (show q < C.length → h < (C.getD q default).h from fun _ => by rw [getD_at _ _ hq2]; omega)
                go_upto_if 86 with (fail)
                go_step
                refine rput_new w2 _ _ cv C q h HRow4 hqC (by omega) _ _ _ _ _ _ _ _ _ _ _ _ _ _ _ _ _ _ _ _ _ _ _ _ _ _ _ _ _ _ _ _ _ _ _ _ _ _ _ _ _ _ _ _ _ _ _ _ _ _ _ _ _ _ _ _ _ _ _ _ _ _ _ _ _ _ _ _ _ _ _ _ _ _ _ _ _ _ _ _ _ _ _ _ _ _ _ _ _ _ _ _ _ _ _ _ _ _ _ _ _ _ _ _ _ _ _ _ _ _ _ _ _ _ _ ?_
                intro tl14 tl87 tl88 tl89 tl90 tl91 tl92 tl93 tl94 tl95 tl96 tl97 tl98 wy hR
                obtain ⟨C5, hC5⟩ : ∃ C5, C.take q ++ newBk h :: C.drop q = C5 := ⟨_, rfl⟩
                have hput := fun a m c hl => put_new C q h id hqC HLt.out HGt.out a m c hl
                have hl5 : C5.length = C.length + 1 := by rw [← hC5]; simp <;> omega
                have ht5 : q < C5.length := by omega
                have hlen5 : ∀ x ∈ C5, x.ids.length ≤ j := by
                  rw [← hC5]
                  intro x hx
                  rcases List.mem_append.1 hx with h1 | h1
                  · exact HLen.out x (List.mem_of_mem_take h1)
                  · rcases List.mem_cons.1 h1 with h2 | h2
                    · rw [h2]; simp [newBk]
                    · exact HLen.out x (List.mem_of_mem_drop h2)
                have hput2 : ∀ a m c, (C5.set q ⟨C5[q].h, a, m, c, C5[q].ids ++ [id]⟩).map pB = addB (C.map pB) h id := by
                  intro a m c
                  subst hC5
                  exact hput a m c ht5
                rw [hC5] at hR
                have hrow5 := hR.out.1
                have hc5 := (hR.out.2.cell (p := ⟨b, off + j * 3, none⟩) (block_lt_of_cell HC4.out)).trans HC4.out
                have HLen5 := Lib.hid hlen5; have HPut := Lib.hid hput2
                rcases OwnV.form hrow5.own with ⟨e0, e1⟩ | ⟨g5, cap5, e0, hx1, hx2, hx3⟩
                · rw [e1] at ht5; simp at ht5
                cases e0
                have HRow5 := Lib.hid hrow5
                clear hC5 hput hlen5 hput2 hrow5 hx1 hx2 hx3 hR
                go_step
                refine rid_add w2 _ g5 cap5 C5 q ht5 b off R.length cr j id HRow5 (by omega) (by have := HLen5.out _ (List.getElem_mem ht5); omega) hlt hRl hc5 _ _ _ _ _ _ _ _ _ _ _ _ _ _ _ _ _ _ _ _ _ _ _ _ _ _ _ _ _ _ _ _ _ _ _ _ _ _ _ _ _ _ _ _ _ _ _ _ _ _ _ _ _ _ _ _ _ _ _ _ _ _ _ _ _ _ _ _ _ _ _ _ _ _ _ _ _ _ _ _ _ _ _ _ _ _ _ _ _ _ _ _ _ _ _ _ _ _ _ _ _ _ _ _ _ _ _ _ _ _ _ _ _ _ ?_
                intro tl99 tl100 tl101 tl102 tl103 tl104 tl105 tl106 tl107 tl108 tl109 tl110 tl111 tl112 tl113 tl114 wz hR2
                go_wp2_with fail
                obtain ⟨a, m, c, hrow6⟩ := hR2.out
                have HRow6 := Lib.hid hrow6
                clear hrow6
                go_roundw
                case rel =>
                  refine ⟨j + 1, C5.set q ⟨C5[q].h, a, m, c, C5[q].ids ++ [id]⟩, by go_num, by omega, by rw [List.length_set]; omega, HRow6.out, ?_, ?_, ?_⟩
                  · rw [HPut.out a m c]; exact HAsc.out.add _ _
                  · refine Lib.hid fun x hx => ?_
                    rcases List.mem_or_eq_of_mem_set hx with h1 | h1
                    · exact Nat.le_succ_of_le (HLen5.out x h1)
                    · rw [h1]; have := HLen5.out _ (List.getElem_mem ht5); simp; omega
                  · exact Lib.hid (by rw [HPut.out a m c]; exact HT3.out)
                case measure => simp [intOf]; omega
          · have hq3 : decide ((q : Int) < (C.length : Int)) = false := by simp; omega
            have hq4 : decide ((q : Int) = (C.length : Int)) = true := by simp; omega
            obtain rfl : q = C.length := by omega
            have HGt := Lib.hid (show C.length < C.length → h < (C.getD C.length default).h from fun h' => absurd h' hq2)
            go_upto_if 86 with (fail)
            go_step
            refine rput_new w2 _ _ cv C C.length h HRow4 hqC (by omega) _ _ _ _ _ _ _ _ _ _ _ _ _ _ _ _ _ _ _ _ _ _ _ _ _ _ _ _ _ _ _ _ _ _ _ _ _ _ _ _ _ _ _ _ _ _ _ _ _ _ _ _ _ _ _ _ _ _ _ _ _ _ _ _ _ _ _ _ _ _ _ _ _ _ _ _ _ _ _ _ _ _ _ _ _ _ _ _ _ _ _ _ _ _ _ _ _ _ _ _ _ _ _ _ _ _ _ _ _ _ _ _ _ _ _ ?_
            intro tl14 tl87 tl88 tl89 tl90 tl91 tl92 tl93 tl94 tl95 tl96 tl97 tl98 wy hR
            obtain ⟨C5, hC5⟩ : ∃ C5, C.take C.length ++ newBk h :: C.drop C.length = C5 := ⟨_, rfl⟩
            have hput := fun a m c hl => put_new C C.length h id hqC HLt.out HGt.out a m c hl
            have hl5 : C5.length = C.length + 1 := by rw [← hC5]; simp <;> omega
            have ht5 : C.length < C5.length := by omega
            have hlen5 : ∀ x ∈ C5, x.ids.length ≤ j := by
              rw [← hC5]
              intro x hx
              rcases List.mem_append.1 hx with h1 | h1
              · exact HLen.out x (List.mem_of_mem_take h1)
              · rcases List.mem_cons.1 h1 with h2 | h2
                · rw [h2]; simp [newBk]
                · exact HLen.out x (List.mem_of_mem_drop h2)
            have hput2 : ∀ a m c, (C5.set C.length ⟨C5[C.length].h, a, m, c, C5[C.length].ids ++ [id]⟩).map pB = addB (C.map pB) h id := by
              intro a m c
              subst hC5
              exact hput a m c ht5
            rw [hC5] at hR
            have hrow5 := hR.out.1
            have hc5 := (hR.out.2.cell (p := ⟨b, off + j * 3, none⟩) (block_lt_of_cell HC4.out)).trans HC4.out
            have HLen5 := Lib.hid hlen5; have HPut := Lib.hid hput2
            rcases OwnV.form hrow5.own with ⟨e0, e1⟩ | ⟨g5, cap5, e0, hx1, hx2, hx3⟩
            · rw [e1] at ht5; simp at ht5
            cases e0
            have HRow5 := Lib.hid hrow5
            clear hC5 hput hlen5 hput2 hrow5 hx1 hx2 hx3 hR
            go_step
            refine rid_add w2 _ g5 cap5 C5 C.length ht5 b off R.length cr j id HRow5 (by omega) (by have := HLen5.out _ (List.getElem_mem ht5); omega) hlt hRl hc5 _ _ _ _ _ _ _ _ _ _ _ _ _ _ _ _ _ _ _ _ _ _ _ _ _ _ _ _ _ _ _ _ _ _ _ _ _ _ _ _ _ _ _ _ _ _ _ _ _ _ _ _ _ _ _ _ _ _ _ _ _ _ _ _ _ _ _ _ _ _ _ _ _ _ _ _ _ _ _ _ _ _ _ _ _ _ _ _ _ _ _ _ _ _ _ _ _ _ _ _ _ _ _ _ _ _ _ _ _ _ _ _ _ _ ?_
            intro tl99 tl100 tl101 tl102 tl103 tl104 tl105 tl106 tl107 tl108 tl109 tl110 tl111 tl112 tl113 tl114 wz hR2
            go_wp2_with fail
            obtain ⟨a, m, c, hrow6⟩ := hR2.out
            have HRow6 := Lib.hid hrow6
            clear hrow6
            go_roundw
            case rel =>
              refine ⟨j + 1, C5.set C.length ⟨C5[C.length].h, a, m, c, C5[C.length].ids ++ [id]⟩, by go_num, by omega, by rw [List.length_set]; omega, HRow6.out, ?_, ?_, ?_⟩
              · rw [HPut.out a m c]; exact HAsc.out.add _ _
              · refine Lib.hid fun x hx => ?_
                rcases List.mem_or_eq_of_mem_set hx with h1 | h1
                · exact Nat.le_succ_of_le (HLen5.out x h1)
                · rw [h1]; have := HLen5.out _ (List.getElem_mem ht5); simp; omega
              · exact Lib.hid (by rw [HPut.out a m c]; exact HT3.out)
            case measure => simp [intOf]; omega
    · have hq : decide ((j : Int) < (R.length : Int)) = false := by simp; omega
      obtain rfl : j = R.length := by omega
      have hT := HT.out
      rw [List.drop_length] at hT
      have hT2 : C.map pB = G := hT
      have HT2 := Lib.hid hT2
      clear hT hT2
      go_wp2_with fail
      go_ret2
      exact ⟨_, rfl, by rw [← HT2.out]; exact HRow.out.at.move (Nat.le_refl _) (fun x _ hx => ⟨rfl, Nat.le_trans HB2.out.size hx⟩), HB2.out.trans (hbw.mono HB2.out.size)⟩
end
section
open Go.RowKit
theorem rBlocks_any (S T : Nat → Prop) (vf vt vn vs kv rv : Value) (s : SchemaL) (k : Int × Int) (Ks : List (List (Int × Int))) (i : Int) (R : List RecL) (w : World) (h : SchemaAt w S vf vt vn vs s) (hk : KeysVec w T kv Ks) (hr : RecsVec w Any1 rv R) (hc : checkS s = 0) (hs : ∀ r ∈ R, ∀ x ∈ r.vals, x.length ≤ 1000000) (hvn : ∀ r ∈ R, r.vals.length ≤ 1000000) (hRl : R.length ≤ 1000000) (hn : s.fields.length ≤ 1000) (hl : Ks.length ≤ 1000000) (hK : ∀ K ∈ Ks, K.length ≤ 1000000) :
    Calls Tryz.prog 20 #[.agg #[vf, vt, vn, vs], .agg #[.int .u64 k.1, .int .u64 k.2], kv, .int .i64 i, rv] w (BlocksXPost (blocksX s k Ks i R) w) := by
  by_cases hc0 : checkKI s.fields Ks i = 0
  · obtain ⟨hok, n, rfl, hn2⟩ := checkKI_ok hc0
    have hck : checkK s.fields Ks = 0 := by
      have h1 := hc0
      unfold checkKI at h1
      split at h1
      · assumption
      · exact h1
    by_cases hR : allN s R = 0
    · have e : blocksX s k Ks (n : Int) R = (blocksN k n (Ks.getD n []) R, 0) := by unfold blocksX; rw [if_pos hc0, if_pos hR, Int.toNat_natCast]
      rw [e]
      exact rBlocks_yes S T vf vt vn vs kv rv s k Ks n R w h hk hr hc hs hvn (by have := (allN_ok hR).2.1; omega) hn hl hK hck hn2 hR
    · have e : blocksX s k Ks (n : Int) R = ([], allN s R) := by unfold blocksX; rw [if_pos hc0, if_neg hR]
      rw [e]
      exact rBlocks_rec S T vf vt vn vs kv rv s k Ks n _ R w h hk hr hc hs hvn hRl hn hl hK hck hn2 rfl hR
  · have e : blocksX s k Ks i R = ([], checkKI s.fields Ks i) := by unfold blocksX; rw [if_neg hc0]
    rw [e]
    exact rBlocks_key S T vf vt vn vs kv rv s k Ks i _ R w h hk hr hc hn hl hK rfl hc0
end
section
set_option maxRecDepth 100000
open Go.RowKit
set_option maxHeartbeats 4000000 in
theorem rAll_key (S T : Nat → Prop) (vf vt vn vs kv rv : Value) (s : SchemaL) (k : Int × Int) (Ks : List (List (Int × Int))) (e : Int) (R : List RecL) (w : World) (h : SchemaAt w S vf vt vn vs s) (hk : KeysVec w T kv Ks) (hr : RecsVec w Any1 rv R) (hc : checkS s = 0) (hn : s.fields.length ≤ 1000) (hl : Ks.length ≤ 1000000) (hK : ∀ K ∈ Ks, K.length ≤ 1000000) (hce : checkK s.fields Ks = e) (he : e ≠ 0) :
    Calls Tryz.prog 17 #[.agg #[vf, vt, vn, vs], .agg #[.int .u64 k.1, .int .u64 k.2], kv, rv] w (AllXPost ([], e) w) := by
  obtain ⟨ak, ck, rfl⟩ := hk.slice
  obtain ⟨ar, cr, rfl⟩ := hr.slice
  have HS := Lib.hid h; have HKv := Lib.hid hk; have HC := Lib.hid hc; have HKl := Lib.hid hK; have HCe := Lib.hid hce
  have dne : (e != (0 : Int)) = true := by simpa using he
  clear h hk hr hc hK hce
  go_enter Tryz.func17, Tryz.ntmps17
  go_wp2_with fail
  refine wp_calls_world (fun W hW => ?_)
  have hb0 : Below w.heap.size w W := by rw [hW]; exact ((Below.refl w.heap.size w).alloc (Nat.le_refl _) _).alloc (by simp) _
  clear hW
  refine (rbchk_any S T _ _ _ _ _ s Ks W (HS.out.below hb0) (HKv.out.below hb0) HC.out (by omega) hl HKl.out).mono ?_
  rw [HCe.out]
  rintro e1 w1 ⟨rfl, hb⟩
  have HB1 := Lib.hid (hb0.trans (hb.mono hb0.size))
  clear hb0 hb
  go_wp2_with fail
  go_ret2
  exact ⟨_, rfl, BListsAt.nil _ _, HB1.out⟩
set_option maxHeartbeats 4000000 in
theorem rAll_rec (S T : Nat → Prop) (vf vt vn vs kv rv : Value) (s : SchemaL) (k : Int × Int) (Ks : List (List (Int × Int))) (e : Int) (R : List RecL) (w : World) (h : SchemaAt w S vf vt vn vs s) (hk : KeysVec w T kv Ks) (hr : RecsVec w Any1 rv R) (hc : checkS s = 0) (hs : ∀ r ∈ R, ∀ x ∈ r.vals, x.length ≤ 1000000) (hvn : ∀ r ∈ R, r.vals.length ≤ 1000000) (hRl : R.length ≤ 1000000) (hn : s.fields.length ≤ 1000) (hl : Ks.length ≤ 1000000) (hK : ∀ K ∈ Ks, K.length ≤ 1000000) (hck : checkK s.fields Ks = 0) (hce : allN s R = e) (he : e ≠ 0) :
    Calls Tryz.prog 17 #[.agg #[vf, vt, vn, vs], .agg #[.int .u64 k.1, .int .u64 k.2], kv, rv] w (AllXPost ([], e) w) := by
  obtain ⟨ak, ck, rfl⟩ := hk.slice
  obtain ⟨ar, cr, rfl⟩ := hr.slice
  have HS := Lib.hid h; have HKv := Lib.hid hk; have HV := Lib.hid hr; have HC := Lib.hid hc; have HKl := Lib.hid hK; have HCc := Lib.hid hck; have HCe := Lib.hid hce; have HSh := Lib.hid hs; have HVn := Lib.hid hvn
  have dz : ((0 : Int) != 0) = false := rfl
  have dne : (e != (0 : Int)) = true := by simpa using he
  clear h hk hr hc hs hvn hK hck hce
  go_enter Tryz.func17, Tryz.ntmps17
  go_wp2_with fail
  refine wp_calls_world (fun W hW => ?_)
  have hb0 : Below w.heap.size w W := by rw [hW]; exact ((Below.refl w.heap.size w).alloc (Nat.le_refl _) _).alloc (by simp) _
  have hs0 : W.heap[w.heap.size]? = some (.cells #[vf, vt, vn, vs] 43 (0, 0)) := by rw [hW]; exact blk_old (blk_new rfl)
  clear hW
  refine (rbchk_any S T _ _ _ _ _ s Ks W (HS.out.below hb0) (HKv.out.below hb0) HC.out (by omega) hl HKl.out).mono ?_
  rw [HCc.out]
  rintro e1 w1 ⟨rfl, hb⟩
  have HB1 := Lib.hid (hb0.trans (hb.mono hb0.size))
  obtain ⟨s0, s1, s2, s3⟩ := cellsS (blk_below hb (lt_of_blk hs0) hs0)
  clear hb0 hb hs0
  go_wp2_with fail
  refine (rrall_any S Any1 _ _ _ _ _ s R w1 (HS.out.below HB1.out) (HV.out.below HB1.out) HSh.out HVn.out hRl).mono ?_
  rw [HCe.out]
  rintro e2 w2 ⟨rfl, hb⟩
  have HB2 := Lib.hid (HB1.out.trans (hb.mono HB1.out.size))
  clear hb s0 s1 s2 s3
  go_wp2_with fail
  go_ret2
  exact ⟨_, rfl, BListsAt.nil _ _, HB2.out⟩
end
section
set_option maxRecDepth 100000
open Go.RowKit
set_option maxHeartbeats 8000000 in
theorem rAll_yes (S T : Nat → Prop) (vf vt vn vs kv rv : Value) (s : SchemaL) (k : Int × Int) (Ks : List (List (Int × Int))) (R : List RecL) (w : World) (h : SchemaAt w S vf vt vn vs s) (hk : KeysVec w T kv Ks) (hr : RecsVec w Any1 rv R) (hR : RecsOk s R) (hn : s.fields.length ≤ 1000) (hck : checkK s.fields Ks = 0) (hK : ∀ K ∈ Ks, K.length ≤ 1000000) :
    Calls Tryz.prog 17 #[.agg #[vf, vt, vn, vs], .agg #[.int .u64 k.1, .int .u64 k.2], kv, rv] w (AllXPost (blksN k Ks R Ks.length, 0) w) := by
  obtain ⟨ak, ck, rfl⟩ := hk.slice
  obtain ⟨ar, cr, rfl⟩ := hr.slice
  have hc := (allN_ok hR.all).1
  have h64 := (allN_ok hR.all).2.1
  have h8 := (checkK_ok hck).len
  have HS := Lib.hid h; have HK := Lib.hid hk; have HV := Lib.hid hr; have HRO := Lib.hid hR; have HC := Lib.hid hc; have HCc := Lib.hid hck; have HKl := Lib.hid hK
  have dz : ((0 : Int) != 0) = false := rfl
  clear h hk hr hR hc hck hK
  go_enter Tryz.func17, Tryz.ntmps17
  go_wp2_with fail
  refine wp_calls_world (fun W hW => ?_)
  have hb0 : Below w.heap.size w W := by rw [hW]; exact ((Below.refl w.heap.size w).alloc (Nat.le_refl _) _).alloc (by simp) _
  have hs0 : W.heap[w.heap.size]? = some (.cells #[vf, vt, vn, vs] 43 (0, 0)) := by rw [hW]; exact blk_old (blk_new rfl)
  have hk0 : W.heap[w.heap.size + 1]? = some (.cells #[.int .u64 k.1, .int .u64 k.2] 26 (0, 0)) := by rw [hW]; exact blk_new (by simp)
  clear hW
  refine (rbchk_any S T _ _ _ _ _ s Ks W (HS.out.below hb0) (HK.out.below hb0) HC.out (by omega) (by omega) HKl.out).mono ?_
  rw [HCc.out]
  rintro e w1 ⟨rfl, hb⟩
  have hs1 := blk_below hb (lt_of_blk hs0) hs0; have hk1 := blk_below hb (lt_of_blk hk0) hk0
  have HB1 := Lib.hid (hb0.trans (hb.mono hb0.size)); have HK1 := Lib.hid hk1; have HS1 := Lib.hid hs1
  obtain ⟨s0, s1, s2, s3⟩ := cellsS hs1
  clear hb hb0 hs0 hk0 hs1 hk1
  go_wp2_with fail
  refine (rrall_any S Any1 _ _ _ _ _ s R w1 (HS.out.below HB1.out) (HV.out.below HB1.out) (fun r hr x hx => by have := HRO.out.short r hr x hx; omega) (HRO.out.vals hn) (by omega)).mono ?_
  rw [HRO.out.all]
  rintro e w2 ⟨rfl, hb⟩
  have hk2 := blk_below hb (lt_of_blk HK1.out) HK1.out
  have HB2 := Lib.hid (HB1.out.trans (hb.mono HB1.out.size)); have HK2 := Lib.hid hk2; have HS2 := Lib.hid (blk_below hb (lt_of_blk HS1.out) HS1.out)
  have lk := lt_of_blk hk2
  clear hb s0 s1 s2 s3 hk2
  go_wp2_with fail
  go_loopw [12, 13] (fun v t wr => ∃ (j : Nat) (C : List SV), t = .int .i64 j ∧ j ≤ Ks.length ∧ C.length = j ∧ OwnV 59 1 encSV w2 v C wr ∧ BListsAll wr (OffRow w2.heap.size v) C (blksN k Ks R j)) (fun _ t _ => Ks.length - (intOf t).toNat)
  case atStart => exact ⟨0, [], rfl, by omega, rfl, OwnV.start _ _ _ _, rfl, fun n h1 _ => by simp at h1⟩
  case round =>
    obtain ⟨j, C, rfl, hj, hCl, ho, hba⟩ := hrel
    have HO := Lib.hid ho; have HBA := Lib.hid hba; have HCl := Lib.hid hCl
    clear ho hba hCl
    by_cases hlt : j < Ks.length
    · have hq : decide ((j : Int) < Ks.length) = true := by simp; omega
      have hji : (j : Int) < (Ks.length : Int) := by omega
      have hbw := HO.out.2
      have hwz := hbw.size
      obtain ⟨k0, k1⟩ := cells2K (blk_below hbw lk HK2.out)
      obtain ⟨s0, s1, s2, s3⟩ := cellsS (blk_below hbw (lt_of_blk HS2.out) HS2.out)
      have hsucc := blksN_succ k Ks R j
      obtain ⟨L, hL⟩ : ∃ L, blocksN k j (Ks.getD j []) R = L := ⟨_, rfl⟩
      rw [hL] at hsucc
      have HSu := Lib.hid hsucc; have HL := Lib.hid hL
      have HBw := Lib.hid (HB2.out.trans (hbw.mono HB2.out.size))
      clear hsucc hL hbw
      go_wp2_with fail
      refine (rBlocks_yes S T _ _ _ _ _ _ s k Ks j R wr (HS.out.below HBw.out) (HK.out.below HBw.out) (HV.out.below HBw.out) HC.out (fun r hr x hx => by have := HRO.out.short r hr x hx; omega) (HRO.out.vals hn) (by omega) hn (by omega) HKl.out HCc.out hlt HRO.out.all).mono ?_
      rw [HL.out]
      rintro e w4 ⟨v4, rfl, hv4, hb4⟩
      obtain ⟨a4, c4, rfl⟩ := hv4.slice
      have hb2 := hb4
      have hb3 : Below wr.heap.size wr (w4.alloc (.cells #[.slice a4 L.length c4] 59)) := hb2.alloc hb2.size _
      have HO2 := Lib.hid (HO.out.below hb3)
      have HR2 := Lib.hid (show Reads (w4.alloc (.cells #[.slice a4 L.length c4] 59)) 1 (.slice (some ⟨w4.heap.size, 0, none⟩) 1 1) [(⟨a4, L.length, c4⟩ : SV)].length ([(⟨a4, L.length, c4⟩ : SV)].flatMap encSV) from reads_block (xs := [(⟨a4, L.length, c4⟩ : SV)].flatMap encSV) (fr := (0, 0)) (t := 59) (blk_new rfl) rfl)
      have hown6 : ∀ x, wr.heap.size ≤ x → some x ≠ u12.ownBlock := by
        intro x hx
        rcases HO.out.1.2 with ⟨h0, _⟩ | ⟨g, cap, cur, h0, hg, hh, _⟩
        · rw [h0]; simp [Value.ownBlock]
        · rw [h0]; have := lt_of_blk hh; simp [Value.ownBlock]; omega
      have HCB := Lib.hid (hv4.move (w' := w4) (T := fun x => some x ≠ u12.ownBlock ∧ w2.heap.size ≤ x) (Nat.le_refl _) (fun x _ hx => ⟨rfl, by have hx' : wr.heap.size ≤ x := hx; exact ⟨hown6 x (by omega), by omega⟩⟩))
      have HBA2 := Lib.hid (HBA.out.move (w' := w4) (T := fun x => some x ≠ u12.ownBlock ∧ w2.heap.size ≤ x) hb2.size (fun x hx hs => ⟨hb2.block x hx, hs.2, hs.1⟩))
      have hcn : C.length + [(⟨a4, L.length, c4⟩ : SV)].length ≤ 1000000000 := by rw [HCl.out]; simp only [List.length_cons, List.length_nil]; omega
      have hz2 := hb2.size
      clear hv4 hb4 hb2 hb3 k0 k1 s0 s1 s2 s3
      go_wp2_with (at_builtin; refine wpList_append_at rfl (.tmp 43) (.tmp 45) 55 rfl 59 (.slice none 0 0) 1 24 encSV (fun _ => rfl) one_encSV Tryz.underlying55 infoBS rfl (by decide) (by decide) (w0 := w2) (v := u12) (A := C) (B := [(⟨a4, L.length, c4⟩ : SV)]) rfl HO2.out rfl HR2.out hcn ?_; intro v5 w5 ho5 hk5 hz5 hat5)
      have hba : BListsAll w4 (fun x => some x ≠ u12.ownBlock ∧ w2.heap.size ≤ x) (C ++ [(⟨a4, L.length, c4⟩ : SV)]) (blksN k Ks R (j + 1)) := by
        rw [HSu.out]
        exact HBA2.out.snoc HCB.out
      go_roundw
      case rel =>
        refine ⟨j + 1, C ++ [(⟨a4, L.length, c4⟩ : SV)], by go_num, by omega, by rw [List.length_append, HCl.out]; rfl, ho5, hba.move ?_ ?_⟩
        · simp at hz5; omega
        · intro x hx hS
          obtain ⟨q1, q2⟩ := hS
          refine ⟨?_, q2, ?_⟩
          · obtain ⟨ob, hob⟩ : ∃ ob, w4.heap[x]? = some ob := ⟨_, Array.getElem?_eq_getElem hx⟩
            rw [hob]
            exact hk5 x ob q1 (blk_old hob)
          · rcases hat5 with h1 | h1 | h1
            · rw [h1]; simp
            · rw [← h1]; exact q1
            · rw [h1]; simp; omega
      case measure => simp [intOf]; omega
    · have hq : decide ((j : Int) < Ks.length) = false := by simp; omega
      obtain rfl : j = Ks.length := by omega
      go_wp2_with fail
      go_ret2
      exact ⟨_, rfl, ⟨C, (OwnV.vec (size := 1) (enc := encSV) (fun _ => rfl) HO.out).move (Nat.le_refl _) (fun x _ hx => ⟨rfl, Nat.le_trans HB2.out.size hx⟩), HBA.out.move (Nat.le_refl _) (fun x _ hx => ⟨rfl, Nat.le_trans HB2.out.size hx.1⟩)⟩, HB2.out.trans (HO.out.2.mono HB2.out.size)⟩
end
section
open Go.RowKit
theorem rAll_any (S T : Nat → Prop) (vf vt vn vs kv rv : Value) (s : SchemaL) (k : Int × Int) (Ks : List (List (Int × Int))) (R : List RecL) (w : World) (h : SchemaAt w S vf vt vn vs s) (hk : KeysVec w T kv Ks) (hr : RecsVec w Any1 rv R) (hc : checkS s = 0) (hs : ∀ r ∈ R, ∀ x ∈ r.vals, x.length ≤ 1000000) (hvn : ∀ r ∈ R, r.vals.length ≤ 1000000) (hRl : R.length ≤ 1000000) (hn : s.fields.length ≤ 1000) (hl : Ks.length ≤ 1000000) (hK : ∀ K ∈ Ks, K.length ≤ 1000000) :
    Calls Tryz.prog 17 #[.agg #[vf, vt, vn, vs], .agg #[.int .u64 k.1, .int .u64 k.2], kv, rv] w (AllXPost (allX s k Ks R) w) := by
  by_cases hc0 : checkK s.fields Ks = 0
  · by_cases hR : allN s R = 0
    · have e : allX s k Ks R = (blksN k Ks R Ks.length, 0) := by unfold allX; rw [if_pos hc0, if_pos hR]
      rw [e]
      exact rAll_yes S T vf vt vn vs kv rv s k Ks R w h hk hr (recs_of_all hR) hn hc0 hK
    · have e : allX s k Ks R = ([], allN s R) := by unfold allX; rw [if_pos hc0, if_neg hR]
      rw [e]
      exact rAll_rec S T vf vt vn vs kv rv s k Ks _ R w h hk hr hc hs hvn hRl hn hl hK hc0 rfl hR
  · have e : allX s k Ks R = ([], checkK s.fields Ks) := by unfold allX; rw [if_neg hc0]
    rw [e]
    exact rAll_key S T vf vt vn vs kv rv s k Ks _ R w h hk hr hc hn hl hK rfl hc0
end
section
set_option maxRecDepth 100000
open Go.RowKit
set_option maxHeartbeats 2000000 in
theorem eshort_any (S : Nat → Prop) (v : Value) (L : List (List UInt8)) (w : World) (h : Vec w S 1 encS v L) (hn : L.length ≤ 1000000) :
    Calls Tryz.prog 8 #[v] w fun e w' => e = .returned (.bool (L.all fun x => decide (x.length ≤ 200))) ∧ Below w.heap.size w w' := by
  obtain ⟨a, cap, rfl⟩ := h.slice
  have HV := Lib.hid h
  have HF := Lib.hid (show ∀ b, (L.all fun x => decide (x.length ≤ 200)) = b → Ending.returned (.bool b) = .returned (.bool (L.all fun x => decide (x.length ≤ 200))) from fun b h => by rw [h])
  clear h
  go_enter Tryz.func8, Tryz.ntmps8
  go_wp2_with fail
  go_loopw [3] (fun i wr => ∃ k : Nat, k ≤ L.length ∧ i = .int .i64 k ∧ Below w.heap.size w wr ∧ Hid (∀ j, j < k → (L.getD j []).length ≤ 200)) (fun i _ => L.length - (intOf i).toNat)
  case atStart => exact ⟨0, by omega, rfl, Below.refl _ _, Lib.hid fun j hj => by omega⟩
  case round =>
    obtain ⟨k, hk, rfl, hbw, HA⟩ := hrel
    have HW := Lib.hid hbw
    by_cases hlt : k < L.length
    · have hq : decide ((k : Int) < L.length) = true := by simp; omega
      have hi : (k : Int) < (L.length : Int) := by omega
      obtain ⟨b, off, rfl, _, hb, hc⟩ := vec_cell1 HV.out (by omega)
      have c0 := (hbw.cell (p := ⟨b, off + k, none⟩) hb).trans (hc k hlt)
      obtain ⟨x, hx⟩ : ∃ x, L.getD k [] = x := ⟨_, rfl⟩
      rw [hx] at c0
      have HX := Lib.hid hx
      clear hbw hc hx
      by_cases hxl : x.length ≤ 200
      · have d : decide ((200 : Int) < x.length) = false := by simp; omega
        go_wp2_with fail
        go_roundw
        case rel => exact ⟨k + 1, by omega, by go_num, HW.out, Lib.hid fun j hj => by
          by_cases e : j = k
          · subst e; rw [HX.out]; exact hxl
          · exact HA.out j (by omega)⟩
        case measure => simp [intOf]; omega
      · have d : decide ((200 : Int) < x.length) = true := by simp; omega
        have HE := Lib.hid (show (L.all fun x => decide (x.length ≤ 200)) = false by
          rw [List.all_eq_false]
          exact ⟨x, by rw [← HX.out, List.getD, List.getElem?_eq_getElem hlt]; exact List.getElem_mem hlt, by simpa using hxl⟩)
        go_wp2_with fail
        go_ret
        exact ⟨HF.out _ HE.out, HW.out⟩
    · have hq : decide ((k : Int) < L.length) = false := by simp; omega
      have HE := Lib.hid (show (L.all fun x => decide (x.length ≤ 200)) = true by
        rw [List.all_eq_true]
        intro x hx
        obtain ⟨j, hj, rfl⟩ := List.mem_iff_getElem.1 hx
        have := HA.out j (by omega)
        rw [List.getD, List.getElem?_eq_getElem hj] at this
        simpa using this)
      clear hbw
      go_wp2_with fail
      go_ret
      exact ⟨HF.out _ HE.out, HW.out⟩
end
section
set_option maxRecDepth 100000
open Go.RowKit Cal
/-- blocks that are not the deck -/
abbrev Off (D : Nat) : Nat → Prop := fun b => b ≠ D
theorem Vec.movedD {D : Nat} {w w' : World} {α : Type} {k : Nat} {enc : α → List Value} {v : Value} {L : List α} (h : Vec w (Off D) k enc v L) (m : Moved D w w') : Vec w' (Off D) k enc v L :=
  h.move m.size fun b hb hs => ⟨m.grown.block b hb (by have : b ≠ D := hs; simp; omega), hs⟩
theorem RecsVec.movedD {D : Nat} {w w' : World} {v : Value} {R : List RecL} (h : RecsVec w (Off D) v R) (m : Moved D w w') : RecsVec w' (Off D) v R :=
  h.move m.size fun b hb hs => ⟨m.grown.block b hb (by have : b ≠ D := hs; simp; omega), hs⟩
theorem KeysVec.movedD {D : Nat} {w w' : World} {v : Value} {L : List (List (Int × Int))} (h : KeysVec w (Off D) v L) (m : Moved D w w') : KeysVec w' (Off D) v L := h.moved (fun b h => h) m
theorem KeysAll.movedD {D : Nat} {w w' : World} {C : List SV} {Ks : List (List (Int × Int))} (h : KeysAll w (Off D) C Ks) (m : Moved D w w') : KeysAll w' (Off D) C Ks :=
  h.move m.size fun b hb hs => ⟨m.grown.block b hb (by have : b ≠ D := hs; simp; omega), hs⟩
theorem Vec.off {D : Nat} {w : World} {S : Nat → Prop} {α : Type} {k : Nat} {enc : α → List Value} {v : Value} {L : List α} (h : Vec w S k enc v L) (hS : ∀ b, b < w.heap.size → S b → b ≠ D) : Vec w (Off D) k enc v L := h.move (Nat.le_refl _) fun b hb hs => ⟨rfl, hS b hb hs⟩
theorem RecsVec.off {D : Nat} {w : World} {S : Nat → Prop} {v : Value} {R : List RecL} (h : RecsVec w S v R) (hS : ∀ b, b < w.heap.size → S b → b ≠ D) : RecsVec w (Off D) v R := h.move (Nat.le_refl _) fun b hb hs => ⟨rfl, hS b hb hs⟩
theorem KeysVec.off {D : Nat} {w : World} {S : Nat → Prop} {v : Value} {L : List (List (Int × Int))} (h : KeysVec w S v L) (hS : ∀ b, b < w.heap.size → S b → b ≠ D) : KeysVec w (Off D) v L := h.move (Nat.le_refl _) fun b hb hs => ⟨rfl, hS b hb hs⟩
/-- where the law stands: the deck in block D, the secret, the raw record and the raw component in blocks B, B + 1, B + 2, the schema in block Y, the dealt records -/
structure BX (D B Y : Nat) (W0 : World) (key : Int × Int) (r : RecL) (ra : Option Addr) (rc : Nat) (c : Int × Int) (S : Nat → Prop) (vf vt vn vs : Value) (s : SchemaL) (rv : Value) (R : List RecL) (wr : World) : Prop where
  m : Moved D W0 wr
  k : wr.heap[B]? = some (.cells #[.int .u64 key.1, .int .u64 key.2] 26 (0, 0))
  x : wr.heap[B + 1]? = some (.cells #[.int .i64 r.id, .int .i64 r.ver, .slice ra r.vals.length rc] 29 (0, 0))
  cb : wr.heap[B + 2]? = some (.cells #[.int .i64 c.1, .int .i64 c.2] 31 (0, 0))
  y : wr.heap[Y]? = some (.cells #[vf, vt, vn, vs] 43 (0, 0))
  sa : SchemaAt wr S vf vt vn vs s
  rs : RecsVec wr (Off D) rv R
  vv : Vec wr (Off D) 1 encS (.slice ra r.vals.length rc) r.vals
  ne : ∀ b, S b → b ≠ D
  bD : B + 2 < D
  yD : Y ≠ D
theorem BX.moved {D B Y : Nat} {W0 : World} {key : Int × Int} {r : RecL} {ra : Option Addr} {rc : Nat} {c : Int × Int} {S : Nat → Prop} {vf vt vn vs : Value} {s : SchemaL} {rv : Value} {R : List RecL} {wr wd : World} (h : BX D B Y W0 key r ra rc c S vf vt vn vs s rv R wr) (m : Moved D wr wd) : BX D B Y W0 key r ra rc c S vf vt vn vs s rv R wd :=
  ⟨h.m.trans m, m.blk (by have := h.bD; omega) h.k, m.blk (by have := h.bD; omega) h.x, m.blk (by have := h.bD; omega) h.cb, m.blk h.yD h.y, h.sa.moved h.ne m, h.rs.movedD m, h.vv.movedD m, h.ne, h.bD, h.yD⟩
theorem BX.below {D B Y : Nat} {W0 : World} {key : Int × Int} {r : RecL} {ra : Option Addr} {rc : Nat} {c : Int × Int} {S : Nat → Prop} {vf vt vn vs : Value} {s : SchemaL} {rv : Value} {R : List RecL} {wr wd : World} (h : BX D B Y W0 key r ra rc c S vf vt vn vs s rv R wr) (hb : Below wr.heap.size wr wd) : BX D B Y W0 key r ra rc c S vf vt vn vs s rv R wd :=
  h.moved ((Moved.start h.m.deck).below hb)
theorem keysAll_append {w : World} {S : Nat → Prop} {C C' : List SV} {Ks Ks' : List (List (Int × Int))} (h : KeysAll w S C Ks) (h' : KeysAll w S C' Ks') : KeysAll w S (C ++ C') (Ks ++ Ks') := by
  refine ⟨by simp [h.1, h'.1], fun n h1 h2 => ?_⟩
  by_cases hn : n < C.length
  · have hn2 : n < Ks.length := by rw [← h.1]; exact hn
    rw [List.getElem_append_left hn, List.getElem_append_left hn2]
    exact h.2 n hn hn2
  · have hn2 : ¬ n < Ks.length := by rw [← h.1]; exact hn
    rw [List.getElem_append_right (by omega), List.getElem_append_right (by omega)]
    have e := h.1
    simp only [e]
    exact h'.2 _ _ _
end
section
set_option maxRecDepth 100000
open Go.RowKit Cal
set_option maxHeartbeats 2000000 in
theorem bsmall_any (S : Nat → Prop) (v : Value) (Ks : List (List (Int × Int))) (w : World) (h : KeysVec w S v Ks) (hl : Ks.length ≤ maxLen) :
    Calls Tryz.prog 7 #[v] w fun e w' => (∃ b, e = .returned (.bool b) ∧ (b = true → Ks.length ≤ 20 ∧ ∀ K ∈ Ks, K.length ≤ 20)) ∧ Below w.heap.size w w' := by
  obtain ⟨a, cap, rfl⟩ := h.slice
  have HK := Lib.hid h
  have hl2 : Ks.length ≤ 9223372036854775807 := by unfold maxLen at hl; exact hl
  clear h hl
  go_enter Tryz.func7, Tryz.ntmps7
  go_wp2_with fail
  go_loopw [3, 6] (fun _ i wr => ∃ k : Nat, k ≤ Ks.length ∧ i = .int .i64 k ∧ Below w.heap.size w wr ∧ Hid (∀ j, j < k → (Ks.getD j []).length ≤ 20)) (fun _ i _ => Ks.length - (intOf i).toNat)
  case atStart => exact ⟨0, by omega, rfl, Below.refl _ _, Lib.hid fun j hj => by omega⟩
  case round =>
    obtain ⟨k, hk, rfl, hbw, HA⟩ := hrel
    have HW := Lib.hid hbw
    by_cases hlt : k < Ks.length
    · have hq : decide ((k : Int) < Ks.length) = true := by simp; omega
      have hi : (k : Int) < (Ks.length : Int) := by omega
      obtain ⟨b, off, c, rfl, hb, c0, hv⟩ := (HK.out.below hbw).at k hlt
      obtain ⟨ca, cn, cc⟩ := c
      dsimp only at c0 hv
      have hcn := hv.len.1
      obtain ⟨m, hm⟩ : ∃ m, (Ks.getD k []).length = m := ⟨_, rfl⟩
      rw [hm] at hcn
      subst hcn
      have HM := Lib.hid hm
      clear hbw hv hm
      by_cases hxl : cn ≤ 20
      · have d : decide ((20 : Int) < cn) = false := by simp; omega
        go_wp2_with fail
        go_roundw
        case rel => exact ⟨k + 1, by omega, by go_num, HW.out, Lib.hid fun j hj => by
          by_cases e : j = k
          · subst e; rw [HM.out]; exact hxl
          · exact HA.out j (by omega)⟩
        case measure => simp [intOf]; omega
      · have d : decide ((20 : Int) < cn) = true := by simp; omega
        go_wp2_with fail
        go_ret
        exact ⟨⟨false, rfl, fun h => by cases h⟩, HW.out⟩
    · have hq : decide ((k : Int) < Ks.length) = false := by simp; omega
      obtain rfl : k = Ks.length := by omega
      have HE := Lib.hid (show decide ((Ks.length : Int) ≤ 20) = true → Ks.length ≤ 20 ∧ ∀ K ∈ Ks, K.length ≤ 20 by
        intro h
        refine ⟨by simp at h; omega, fun K hK => ?_⟩
        obtain ⟨j, hj, rfl⟩ := List.mem_iff_getElem.1 hK
        have := HA.out j (by omega)
        rw [getD_at _ _ hj] at this
        exact this)
      clear hbw
      go_wp2_with fail
      go_ret
      exact ⟨⟨_, rfl, HE.out⟩, HW.out⟩
/-- what a block holds -/
def blkOf : Code → Code
  | .block _ c => c
  | c => c
/-- a record whose values are few and short -/
structure ShortR (r : RecL) : Prop where
  n : r.vals.length ≤ 20
  s : ∀ x ∈ r.vals, x.length ≤ 200
theorem ShortR.n6 {r : RecL} (h : ShortR r) : r.vals.length ≤ 1000000 := by have := h.n; omega
theorem ShortR.s6 {r : RecL} (h : ShortR r) : ∀ x ∈ r.vals, x.length ≤ 1000000 := fun x hx => by have := h.s x hx; omega
theorem ShortR.of {s : SchemaL} {r : RecL} (hs : checkS s = 0) (h : checkN s r = 0) : ShortR r := by
  refine ⟨?_, fun x hx => by have := check_short h x hx; omega⟩
  have h1 := (checkN_ok h).2.2.1
  have h2 := (check_fields hs).1.2
  omega
theorem bx_addAll : ∀ (R : List ((Int × Bool) × Int)) (L : List BkP), (addAll L R).length ≤ L.length + R.length
  | [], L => by simp [addAll]
  | (h, x) :: R, L => by
    unfold addAll
    have h1 := bx_addAll R (if h.2 = true then addB L h.1 x else L)
    have h2 := addB_len L h.1 x
    split at h1
    · next hh => rw [if_pos hh]; simp only [List.length_cons]; omega
    · next hh => rw [if_neg hh]; simp only [List.length_cons]; omega
theorem bx_addB {m : Nat} (k x : Int) : ∀ {L : List BkP}, (∀ c ∈ L, c.2.length ≤ m) → ∀ b ∈ addB L k x, b.2.length ≤ m + 1
  | [], _, b, hb => by simp [addB] at hb; subst hb; simp
  | c :: L, h, b, hb => by
    unfold addB at hb
    have hc := h c List.mem_cons_self
    split at hb
    · rcases List.mem_cons.1 hb with rfl | h1
      · omega
      · exact bx_addB k x (fun c hc => h c (List.mem_cons_of_mem _ hc)) b h1
    · split at hb
      · rcases List.mem_cons.1 hb with rfl | h1
        · simp; omega
        · have := h b (List.mem_cons_of_mem _ h1); omega
      · rcases List.mem_cons.1 hb with rfl | h1
        · simp
        · have := h b h1; omega
theorem bx_ids : ∀ (R : List ((Int × Bool) × Int)) (L : List BkP) (m : Nat), (∀ c ∈ L, c.2.length ≤ m) → ∀ b ∈ addAll L R, b.2.length ≤ m + R.length
  | [], L, m, h, b, hb => h b hb
  | (a, x) :: R, L, m, h, b, hb => by
    unfold addAll at hb
    have := bx_ids R _ (m + 1) (fun c hc => by
      split at hc
      · exact bx_addB a.1 x h c hc
      · exact Nat.le_succ_of_le (h c hc)) b hb
    simp only [List.length_cons]; omega
theorem bx_blocks (k : Int × Int) (i : Nat) (K : List (Int × Int)) (R : List RecL) : (blocksN k i K R).length ≤ R.length ∧ ∀ b ∈ blocksN k i K R, b.2.length ≤ R.length := by
  unfold blocksN
  refine ⟨by have := bx_addAll (R.map (blkPair k i K)) []; simpa using this, fun b hb => ?_⟩
  have := bx_ids (R.map (blkPair k i K)) [] 0 (fun c hc => by simp at hc) b hb
  simpa using this
/-- the blocks of few records are few -/
theorem bx_blocksX {s : SchemaL} {k : Int × Int} {Ks : List (List (Int × Int))} {i : Int} {R : List RecL} (hR : R.length ≤ 1000) : (blocksX s k Ks i R).1.length ≤ 1000000 ∧ ∀ b ∈ (blocksX s k Ks i R).1, b.2.length ≤ 1000000 := by
  unfold blocksX
  split
  · split
    · have h := bx_blocks k i.toNat (Ks.getD i.toNat []) R
      exact ⟨by dsimp only; omega, fun b hb => by have := h.2 b hb; omega⟩
    · exact ⟨by simp, fun b hb => by simp at hb⟩
  · exact ⟨by simp, fun b hb => by simp at hb⟩
theorem bx_allX {s : SchemaL} {k : Int × Int} {Ks : List (List (Int × Int))} {R : List RecL} (hR : R.length ≤ 1000) (hK : Ks.length ≤ 1000) : (allX s k Ks R).1.length ≤ 1000000 ∧ ∀ L ∈ (allX s k Ks R).1, L.length ≤ 1000000 ∧ ∀ b ∈ L, b.2.length ≤ 1000000 := by
  unfold allX
  split
  · split
    · refine ⟨by simp [blksN]; omega, fun L hL => ?_⟩
      simp only [blksN, List.mem_map, List.mem_range] at hL
      obtain ⟨i, _, rfl⟩ := hL
      have h := bx_blocks k i (Ks.getD i []) R
      exact ⟨by omega, fun b hb => by have := h.2 b hb; omega⟩
    · exact ⟨by simp, fun L hL => by simp at hL⟩
  · exact ⟨by simp, fun L hL => by simp at hL⟩
end
section
set_option maxRecDepth 100000
open Go.RowKit Cal
attribute [local go_sem] toList_mk mk_size bytes_append str_append
set_option maxHeartbeats 16000000 in
theorem bexLoop (w : World) (D Y : Nat) (W0 : World) (key : Int × Int) (r : RecL) (ra : Option Addr) (rc : Nat) (c : Int × Int) (S : Nat → Prop) (af at' an as' : Option Addr) (N cf nt ct nk cn ns cs : Nat) (s : SchemaL) (HSD : Hid (SchemaD s)) (HN : Hid (s.fields.length = N)) (arv : Option Addr) (crv : Nat) (R : List RecL) (hN1 : 1 ≤ N) (hN5 : N ≤ 5) (HRr : Hid (ShortR r)) (hR7 : R.length ≤ 7) (HRR : Hid (∀ q ∈ R, ShortR q)) (i0 : Int) (hi1 : -9223372036854775808 ≤ i0) (hi2 : i0 ≤ 9223372036854775807) (WL : World) (KL : Hid (BX D w.heap.size Y W0 key r ra rc c S (.slice af N cf) (.slice at' nt ct) (.slice an nk cn) (.slice as' ns cs) s (.slice arv R.length crv) R WL)) (G : Nat) (v0 v1 v2 v3 : Value) (HG : Hid (WL.heap[G]? = some (.cells #[v0, v1, v2, v3] 23 (0, 0)))) (GD : G ≠ D) (HQ : Hid (∀ k, k < 4 → ∃ (v : Value) (Ks : List (List (Int × Int))), #[v0, v1, v2, v3][k]? = some v ∧ KeysVec WL (Off D) v Ks ∧ Ks.length ≤ 60 ∧ ∀ K ∈ Ks, K.length ≤ 20)) (sl0 sl1 sl2 sl3 sl4 sl6 sl7 sl10 sl11 sl12 sl16 sl17 sl18 sl19 sl20 sl21 sl22 sl23 sl24 sl25 sl26 sl27 sl28 sl29 sl30 sl31 sl32 sl33 sl34 sl35 sl36 sl37 sl38 sl39 sl40 sl41 sl42 sl43 sl44 sl45 sl46 sl47 sl48 sl49 sl50 sl51 sl52 sl53 sl54 sl55 sl56 sl57 sl58 sl59 sl60 sl61 sl62 sl63 sl64 sl65 sl66 sl67 sl68 sl69 sl70 sl71 sl72 sl73 sl74 sl75 sl76 sl77 sl78 sl79 sl80 sl81 sl82 sl83 sl84 sl85 sl86 sl87 sl88 sl89 sl90 sl91 sl92 sl93 sl94 sl95 sl99 sl100 sl101 sl102 sl103 sl104 sl105 sl106 sl107 sl108 sl109 sl110 sl111 sl112 sl113 sl114 sl115 sl116 sl117 sl118 sl119 sl120 sl121 sl122 sl123 sl124 sl125 sl126 sl127 sl128 sl129 sl130 sl131 sl132 sl133 sl134 sl135 sl136 sl137 sl138 sl139 sl140 sl141 sl142 sl143 sl144 sl145 sl146 sl147 sl148 sl149 sl150 sl151 sl152 sl153 sl154 sl155 sl156 sl157 sl158 sl159 sl160 sl161 sl162 sl163 sl164 sl165 sl166 sl167 sl168 sl169 sl170 sl171 sl172 sl173 sl174 sl175 sl176 sl177 sl178 sl179 sl180 sl181 sl182 sl183 sl184 sl185 sl186 sl187 sl188 sl189 sl190 sl191 sl192 sl193 sl194 sl195 sl196 sl197 sl198 sl199 sl200 sl201 sl202 sl203 sl204 sl205 sl206 sl207 sl208 sl209 sl210 sl211 sl212 sl213 sl214 sl215 sl216 sl217 sl218 sl219 sl220 sl221 sl222 sl223 sl224 sl225 sl226 sl227 sl228 sl229 sl230 sl231 sl232 sl233 sl234 sl235 sl236 sl237 sl238 sl239 sl240 sl241 sl242 sl243 sl244 sl245 sl246 sl247 sl248 sl249 sl250 sl251 sl252 sl253 sl254 sl255 sl256 sl257 : Value) (K : Act → World → Prop) (Q' : Exit → Act → World → Prop)
    (hK : ∀ (tl0 tl1 tl2 tl3 tl4 tl6 tl7 tl11 tl12 tl16 tl17 tl18 tl19 tl20 tl21 tl22 tl23 tl24 tl25 tl26 tl27 tl28 tl29 tl30 tl31 tl32 tl33 tl34 tl35 tl36 tl37 tl38 tl39 tl40 tl41 tl42 tl43 tl44 tl45 tl46 tl47 tl48 tl49 tl50 tl51 tl52 tl53 tl54 tl55 tl56 tl57 tl58 tl59 tl60 tl61 tl62 tl63 tl64 tl65 tl66 tl67 tl68 tl69 tl70 tl71 tl72 tl73 tl74 tl75 tl76 tl77 tl78 tl79 tl80 tl81 tl82 tl83 tl84 tl85 tl86 tl87 tl88 tl89 tl90 tl91 tl92 tl93 tl94 tl95 tl96 tl97 tl98 tl99 tl100 tl101 tl102 tl103 tl104 tl105 tl106 tl107 tl108 tl109 tl110 tl111 tl112 tl113 tl114 tl115 tl116 tl117 tl118 tl119 tl120 tl121 tl122 tl123 tl124 tl125 tl126 tl127 tl128 tl129 tl130 tl131 tl132 tl133 tl134 tl135 tl136 tl137 tl138 tl139 tl140 tl141 tl142 tl143 tl144 tl145 tl146 tl147 tl148 tl149 tl150 tl151 tl152 tl153 tl154 tl155 tl156 tl157 tl158 tl159 tl160 tl161 tl162 tl163 tl164 tl165 tl166 tl167 tl168 tl169 tl170 tl171 tl172 tl173 tl174 tl175 tl176 tl177 tl178 tl179 tl180 tl181 tl182 tl183 tl184 tl185 tl186 tl187 tl188 tl189 tl190 tl191 tl192 tl193 tl194 tl195 tl196 tl197 tl198 tl199 tl200 tl201 tl202 tl203 tl204 tl205 tl206 tl207 tl208 tl209 tl210 tl211 tl212 tl213 tl214 tl215 tl216 tl217 tl218 tl219 tl220 tl221 tl222 tl223 tl224 tl225 tl226 tl227 tl228 tl229 tl230 tl231 tl232 tl233 tl234 tl235 tl236 tl237 tl238 tl239 tl240 tl241 tl242 tl243 tl244 tl245 tl246 tl247 tl248 tl249 tl250 tl251 tl252 tl253 tl254 tl255 tl256 tl257 : Value) (wx : World), Hid (Moved D WL wx) → K ⟨List.toArray (tl0 :: tl1 :: tl2 :: tl3 :: tl4 :: .int .i64 i0 :: tl6 :: tl7 :: .pointer (some ⟨w.heap.size, 0, none⟩) :: .pointer (some ⟨w.heap.size + 1, 0, none⟩) :: sl10 :: tl11 :: tl12 :: .pointer (some ⟨D, 0, none⟩) :: .pointer (some ⟨Y, 0, none⟩) :: .slice arv R.length crv :: tl16 :: tl17 :: tl18 :: tl19 :: tl20 :: tl21 :: tl22 :: tl23 :: tl24 :: tl25 :: tl26 :: tl27 :: tl28 :: tl29 :: tl30 :: tl31 :: tl32 :: tl33 :: tl34 :: tl35 :: tl36 :: tl37 :: tl38 :: tl39 :: tl40 :: tl41 :: tl42 :: tl43 :: tl44 :: tl45 :: tl46 :: tl47 :: tl48 :: tl49 :: tl50 :: tl51 :: tl52 :: tl53 :: tl54 :: tl55 :: tl56 :: tl57 :: tl58 :: tl59 :: tl60 :: tl61 :: tl62 :: tl63 :: tl64 :: tl65 :: tl66 :: tl67 :: tl68 :: tl69 :: tl70 :: tl71 :: tl72 :: tl73 :: tl74 :: tl75 :: tl76 :: tl77 :: tl78 :: tl79 :: tl80 :: tl81 :: tl82 :: tl83 :: tl84 :: tl85 :: tl86 :: tl87 :: tl88 :: tl89 :: tl90 :: tl91 :: tl92 :: tl93 :: tl94 :: tl95 :: tl96 :: tl97 :: tl98 :: tl99 :: tl100 :: tl101 :: tl102 :: tl103 :: tl104 :: tl105 :: tl106 :: tl107 :: tl108 :: tl109 :: tl110 :: tl111 :: tl112 :: tl113 :: tl114 :: tl115 :: tl116 :: tl117 :: tl118 :: tl119 :: tl120 :: tl121 :: tl122 :: tl123 :: tl124 :: tl125 :: tl126 :: tl127 :: tl128 :: tl129 :: tl130 :: tl131 :: tl132 :: tl133 :: tl134 :: tl135 :: tl136 :: tl137 :: tl138 :: tl139 :: tl140 :: tl141 :: tl142 :: tl143 :: tl144 :: tl145 :: tl146 :: tl147 :: tl148 :: tl149 :: tl150 :: tl151 :: tl152 :: tl153 :: tl154 :: tl155 :: tl156 :: tl157 :: tl158 :: tl159 :: tl160 :: tl161 :: tl162 :: tl163 :: tl164 :: tl165 :: tl166 :: tl167 :: tl168 :: tl169 :: tl170 :: tl171 :: tl172 :: tl173 :: tl174 :: tl175 :: tl176 :: tl177 :: tl178 :: tl179 :: tl180 :: tl181 :: tl182 :: tl183 :: tl184 :: tl185 :: tl186 :: tl187 :: tl188 :: tl189 :: tl190 :: tl191 :: tl192 :: tl193 :: tl194 :: tl195 :: tl196 :: tl197 :: tl198 :: tl199 :: tl200 :: tl201 :: tl202 :: tl203 :: tl204 :: tl205 :: tl206 :: tl207 :: tl208 :: tl209 :: tl210 :: tl211 :: tl212 :: tl213 :: tl214 :: tl215 :: tl216 :: tl217 :: tl218 :: tl219 :: tl220 :: tl221 :: tl222 :: tl223 :: tl224 :: tl225 :: tl226 :: tl227 :: tl228 :: tl229 :: tl230 :: tl231 :: tl232 :: tl233 :: tl234 :: tl235 :: tl236 :: tl237 :: tl238 :: tl239 :: tl240 :: tl241 :: tl242 :: tl243 :: tl244 :: tl245 :: tl246 :: tl247 :: tl248 :: tl249 :: tl250 :: tl251 :: tl252 :: tl253 :: tl254 :: tl255 :: tl256 :: tl257 :: []), []⟩ wx) :
    (blkOf (rightOf (stmtOf Tryz.f3 9))).wp Tryz.prog (Exit.inBlock 0 (Exit.then K Q')) ⟨List.toArray (sl0 :: sl1 :: sl2 :: sl3 :: sl4 :: .int .i64 i0 :: sl6 :: sl7 :: .pointer (some ⟨w.heap.size, 0, none⟩) :: .pointer (some ⟨w.heap.size + 1, 0, none⟩) :: sl10 :: sl11 :: sl12 :: .pointer (some ⟨D, 0, none⟩) :: .pointer (some ⟨Y, 0, none⟩) :: .slice arv R.length crv :: sl16 :: sl17 :: sl18 :: sl19 :: sl20 :: sl21 :: sl22 :: sl23 :: sl24 :: sl25 :: sl26 :: sl27 :: sl28 :: sl29 :: sl30 :: sl31 :: sl32 :: sl33 :: sl34 :: sl35 :: sl36 :: sl37 :: sl38 :: sl39 :: sl40 :: sl41 :: sl42 :: sl43 :: sl44 :: sl45 :: sl46 :: sl47 :: sl48 :: sl49 :: sl50 :: sl51 :: sl52 :: sl53 :: sl54 :: sl55 :: sl56 :: sl57 :: sl58 :: sl59 :: sl60 :: sl61 :: sl62 :: sl63 :: sl64 :: sl65 :: sl66 :: sl67 :: sl68 :: sl69 :: sl70 :: sl71 :: sl72 :: sl73 :: sl74 :: sl75 :: sl76 :: sl77 :: sl78 :: sl79 :: sl80 :: sl81 :: sl82 :: sl83 :: sl84 :: sl85 :: sl86 :: sl87 :: sl88 :: sl89 :: sl90 :: sl91 :: sl92 :: sl93 :: sl94 :: sl95 :: .slice (some ⟨G, 0, none⟩) 4 4 :: .int .i64 4 :: .int .i64 0 :: sl99 :: sl100 :: sl101 :: sl102 :: sl103 :: sl104 :: sl105 :: sl106 :: sl107 :: sl108 :: sl109 :: sl110 :: sl111 :: sl112 :: sl113 :: sl114 :: sl115 :: sl116 :: sl117 :: sl118 :: sl119 :: sl120 :: sl121 :: sl122 :: sl123 :: sl124 :: sl125 :: sl126 :: sl127 :: sl128 :: sl129 :: sl130 :: sl131 :: sl132 :: sl133 :: sl134 :: sl135 :: sl136 :: sl137 :: sl138 :: sl139 :: sl140 :: sl141 :: sl142 :: sl143 :: sl144 :: sl145 :: sl146 :: sl147 :: sl148 :: sl149 :: sl150 :: sl151 :: sl152 :: sl153 :: sl154 :: sl155 :: sl156 :: sl157 :: sl158 :: sl159 :: sl160 :: sl161 :: sl162 :: sl163 :: sl164 :: sl165 :: sl166 :: sl167 :: sl168 :: sl169 :: sl170 :: sl171 :: sl172 :: sl173 :: sl174 :: sl175 :: sl176 :: sl177 :: sl178 :: sl179 :: sl180 :: sl181 :: sl182 :: sl183 :: sl184 :: sl185 :: sl186 :: sl187 :: sl188 :: sl189 :: sl190 :: sl191 :: sl192 :: sl193 :: sl194 :: sl195 :: sl196 :: sl197 :: sl198 :: sl199 :: sl200 :: sl201 :: sl202 :: sl203 :: sl204 :: sl205 :: sl206 :: sl207 :: sl208 :: sl209 :: sl210 :: sl211 :: sl212 :: sl213 :: sl214 :: sl215 :: sl216 :: sl217 :: sl218 :: sl219 :: sl220 :: sl221 :: sl222 :: sl223 :: sl224 :: sl225 :: sl226 :: sl227 :: sl228 :: sl229 :: sl230 :: sl231 :: sl232 :: sl233 :: sl234 :: sl235 :: sl236 :: sl237 :: sl238 :: sl239 :: sl240 :: sl241 :: sl242 :: sl243 :: sl244 :: sl245 :: sl246 :: sl247 :: sl248 :: sl249 :: sl250 :: sl251 :: sl252 :: sl253 :: sl254 :: sl255 :: sl256 :: sl257 :: []), []⟩ WL := by
  conv => arg 2; whnf
  have lY := lt_of_blk KL.out.y; have lX := lt_of_blk KL.out.x; have lK := lt_of_blk KL.out.k; have lG := lt_of_blk HG.out
  have hbD := KL.out.bD; have hyD := KL.out.yD
  have zDw := KL.out.m.deck.lt
  have hRs := Lib.hid (show ∀ q ∈ R, ∀ x ∈ q.vals, x.length ≤ 1000000 from fun q hq => (HRR.out q hq).s6)
  have hRn := Lib.hid (show ∀ q ∈ R, q.vals.length ≤ 1000000 from fun q hq => (HRR.out q hq).n6)
  have hNf : s.fields.length ≤ 1000 := by rw [HN.out]; omega
  have HNf := Lib.hid hNf
  clear hNf
  go_wp2_with fail
  go_loopw [98] (fun i wr => ∃ k : Nat, k ≤ 4 ∧ i = .int .i64 k ∧ Moved D WL wr) (fun i _ => 4 - (intOf i).toNat)
  case atStart => exact ⟨0, by omega, rfl, Moved.start KL.out.m.deck⟩
  case round =>
    obtain ⟨k, hk, rfl, mk⟩ := hrel
    obtain ⟨WR, hWR⟩ : ∃ u, u = wr := ⟨_, rfl⟩
    subst hWR
    have Kk := Lib.hid (KL.out.moved mk); have HMk := Lib.hid mk
    by_cases hlt : k < 4
    · have hq : decide ((k : Int) < 4) = true := by simp; omega
      obtain ⟨v, Ks, ev, hkv, hKl, hKc⟩ := HQ.out k hlt
      have cv : WR.cell? ⟨G, k, none⟩ = some v := by rw [cell_of_row _ _ _ _ _ _ (mk.blk GD HG.out)]; exact ev
      obtain ⟨ak, ck, rfl⟩ := hkv.slice
      have HKV := Lib.hid (hkv.movedD mk)
      have HKC := Lib.hid (show ∀ K ∈ Ks, K.length ≤ 1000000 from fun K hK => by have := hKc K hK; omega)
      have zR := mk.size
      obtain ⟨ce, hce⟩ : ∃ ce, checkK s.fields Ks = ce := ⟨_, rfl⟩
      have d0 : (ce != ce) = false := by simp
      obtain ⟨p0, p1, p2, p3⟩ := cellsS Kk.out.y
      have c1P := in_regrown WR (fun W' hb => by have h := bchk_any S (Off D) _ _ _ _ _ s Ks W' (Kk.out.sa.below hb) (HKV.out.below hb) HSD.out.check (by have := HNf.out; omega) (by omega) HKC.out; rw [hce] at h; exact h)
      have c2P := in_regrown WR (fun W' hb => by have h := rbchk_any S (Off D) _ _ _ _ _ s Ks W' (Kk.out.sa.below hb) (HKV.out.below hb) HSD.out.check (by have := HNf.out; omega) (by omega) HKC.out; rw [hce] at h; exact h)
      have s0 := cell_regrown p0; have s1 := cell_regrown p1; have s2 := cell_regrown p2; have s3 := cell_regrown p3
      clear hkv ev mk hce hKc
      go_wp2_with fail
      refine wp_region_quiet_below (by kernel_rfl) (by kernel_rfl) ?_
      repeat (go_big_quiet_step (first | with_reducible exact c1P _ _ | with_reducible exact c2P _ _))
      refine wpQuiet_nil ?_
      intro w2 hw'
      have hb2 : Below WR.heap.size WR w2 := by
        obtain ⟨⟨dq, osq⟩, hw''⟩ := hw'
        rw [hw'']; exact below_regrown WR dq osq
      have B2 := Lib.hid hb2
      clear hw' c1P c2P s0 s1 s2 s3 p0 p1 p2 p3 cv
      have LY := Lib.hid (show Y < WR.heap.size by omega); have LK := Lib.hid (show w.heap.size < WR.heap.size by omega); have LX := Lib.hid (show w.heap.size + 1 < WR.heap.size by omega)
      obtain ⟨p0, p1, p2, p3⟩ := cellsS (blk_below hb2 LY.out Kk.out.y); obtain ⟨k0, k1⟩ := cells2K (blk_below hb2 LK.out Kk.out.k)
      clear hb2
      obtain ⟨⟨LL, er⟩, hX⟩ : ∃ p, allX s key Ks R = p := ⟨_, rfl⟩
      have hLL := bx_allX (s := s) (k := key) (Ks := Ks) (R := R) (by omega) (by omega)
      rw [hX] at hLL
      have HX := Lib.hid hX; have HLL := Lib.hid hLL
      have d1 : (er != er) = false := by simp
      clear hX hLL
      go_wp2_with fail
      refine (bAll_any S (Off D) _ _ _ _ _ _ s key Ks R _ (Kk.out.sa.below B2.out) (HKV.out.below B2.out) (Kk.out.rs.below B2.out).any HSD.out.check hRs.out hRn.out (by omega) HNf.out (by omega) HKC.out).mono ?_
      rw [HX.out]
      rintro e w3 ⟨va, rfl, hA, hb⟩
      obtain ⟨aa, ca, rfl⟩ := hA.slice
      have HA := Lib.hid hA; have B3 := Lib.hid (B2.out.trans (hb.mono B2.out.size))
      dsimp only at HA ⊢
      clear hA hb p0 p1 p2 p3 k0 k1
      obtain ⟨p0, p1, p2, p3⟩ := cellsS (blk_below B3.out LY.out Kk.out.y); obtain ⟨k0, k1⟩ := cells2K (blk_below B3.out LK.out Kk.out.k)
      go_wp2_with fail
      refine (rAll_any S (Off D) _ _ _ _ _ _ s key Ks R _ (Kk.out.sa.below B3.out) (HKV.out.below B3.out) (Kk.out.rs.below B3.out).any HSD.out.check hRs.out hRn.out (by omega) HNf.out (by omega) HKC.out).mono ?_
      rw [HX.out]
      rintro e w4 ⟨vb, rfl, hA, hb⟩
      obtain ⟨ab, cb, rfl⟩ := hA.slice
      have HB := Lib.hid hA; have B4 := Lib.hid (B3.out.trans (hb.mono B3.out.size)); have HA2 := Lib.hid (HA.out.below hb)
      dsimp only at HB ⊢
      clear hA hb p0 p1 p2 p3 k0 k1
      go_wp2_with fail
      refine (rsameBs_self _ _ _ _ LL _ HA2.out HB.out HLL.out.1 HLL.out.2).mono ?_
      rintro e w5 ⟨rfl, hb⟩
      have B5 := Lib.hid (B4.out.trans (hb.mono B4.out.size))
      clear hb
      go_wp2_with fail
      refine wp_world (fun WI hWI => ?_)
      have bI : Below w5.heap.size w5 WI := by rw [hWI]; exact (Below.refl _ _).alloc (Nat.le_refl _) _
      have gT : WI.heap[w5.heap.size]? = some (.cells #[.int .i64 i0, .int .i64 0, .int .i64 ((Ks.length : Int) - 1)] 3 (0, 0)) := by rw [hWI]; first | exact blk_new rfl | (simp; done)
      have mI : Moved D WR WI := ((Moved.start Kk.out.m.deck).below B5.out).below bI
      have KI := Lib.hid (Kk.out.moved mI); have HKI := Lib.hid (HKV.out.movedD mI); have HMI := Lib.hid (HMk.out.trans mI)
      have zRD := Kk.out.m.deck.lt
      have TD : w5.heap.size ≠ D := by have := B5.out.size; omega
      have lT := lt_of_blk gT
      obtain ⟨T, hT⟩ : ∃ T, w5.heap.size = T := ⟨_, rfl⟩
      rw [hT] at gT lT TD ⊢
      have HGT := Lib.hid gT
      have HTs := Lib.hid (show ∀ j, j < 3 → ∃ u : Int, #[Value.int .i64 i0, .int .i64 0, .int .i64 ((Ks.length : Int) - 1)][j]? = some (.int .i64 u) ∧ -9223372036854775808 ≤ u ∧ u ≤ 9223372036854775807 by
        intro j hj
        rcases (by omega : j = 0 ∨ j = 1 ∨ j = 2) with rfl | rfl | rfl
        · exact ⟨i0, rfl, hi1, hi2⟩
        · exact ⟨0, rfl, by omega, by omega⟩
        · exact ⟨_, rfl, by omega, by omega⟩)
      clear hWI bI gT mI hT HA HB HA2 HLL HX d1 d0 B2 B3 B4 B5
      go_loopw [140] (fun i wr => ∃ j : Nat, j ≤ 3 ∧ i = .int .i64 j ∧ Moved D WI wr) (fun i _ => 3 - (intOf i).toNat)
      case atStart => exact ⟨0, by omega, rfl, Moved.start KI.out.m.deck⟩
      case round =>
        obtain ⟨j, hj, rfl, mj⟩ := hrel
        obtain ⟨WJ, hWJ⟩ : ∃ u, u = wr := ⟨_, rfl⟩
        subst hWJ
        have HMj := Lib.hid mj
        by_cases hlt2 : j < 3
        · have hq2 : decide ((j : Int) < 3) = true := by simp; omega
          have Kj := Lib.hid (KI.out.moved mj); have HKj := Lib.hid (HKI.out.movedD mj)
          obtain ⟨u, eu, u1, u2⟩ := HTs.out j hlt2
          have cu : WJ.cell? ⟨T, j, none⟩ = some (.int .i64 u) := by rw [cell_of_row _ _ _ _ _ _ (mj.blk TD HGT.out)]; exact eu
          have LY := Lib.hid (show Y < WJ.heap.size from lt_of_blk Kj.out.y); have LK := Lib.hid (show w.heap.size < WJ.heap.size from lt_of_blk Kj.out.k); have LX := Lib.hid (show w.heap.size + 1 < WJ.heap.size from lt_of_blk Kj.out.x)
          obtain ⟨p0, p1, p2, p3⟩ := cellsS Kj.out.y; obtain ⟨k0, k1⟩ := cells2K Kj.out.k
          obtain ⟨⟨LB, er⟩, hX⟩ : ∃ p, blocksX s key Ks u R = p := ⟨_, rfl⟩
          have hLL := bx_blocksX (s := s) (k := key) (Ks := Ks) (i := u) (R := R) (by omega)
          rw [hX] at hLL
          have HX := Lib.hid hX; have HLL := Lib.hid hLL
          have d1 : (er != er) = false := by simp
          clear hX hLL eu mj
          go_wp2_with fail
          refine (bBlocks_any S (Off D) _ _ _ _ _ _ s key Ks u R _ Kj.out.sa HKj.out Kj.out.rs.any HSD.out.check hRs.out hRn.out (by omega) HNf.out (by omega) HKC.out).mono ?_
          rw [HX.out]
          rintro e w3 ⟨va, rfl, hA, hb⟩
          obtain ⟨aa, ca, rfl⟩ := hA.slice
          have HA := Lib.hid hA; have B3 := Lib.hid hb
          dsimp only at HA ⊢
          clear hA hb p0 p1 p2 p3 k0 k1 cu
          obtain ⟨p0, p1, p2, p3⟩ := cellsS (blk_below B3.out LY.out Kj.out.y); obtain ⟨k0, k1⟩ := cells2K (blk_below B3.out LK.out Kj.out.k)
          go_wp2_with fail
          refine (rBlocks_any S (Off D) _ _ _ _ _ _ s key Ks u R _ (Kj.out.sa.below B3.out) (HKj.out.below B3.out) (Kj.out.rs.below B3.out).any HSD.out.check hRs.out hRn.out (by omega) HNf.out (by omega) HKC.out).mono ?_
          rw [HX.out]
          rintro e w4 ⟨vb, rfl, hA, hb⟩
          obtain ⟨ab, cb, rfl⟩ := hA.slice
          have HB := Lib.hid hA; have B4 := Lib.hid (B3.out.trans (hb.mono B3.out.size)); have HA2 := Lib.hid (HA.out.below hb)
          dsimp only at HB ⊢
          clear hA hb p0 p1 p2 p3 k0 k1
          go_wp2_with fail
          refine (rsameB_self _ _ _ _ LB _ HA2.out HB.out HLL.out.1 HLL.out.2).mono ?_
          rintro e w5 ⟨rfl, hb⟩
          have m5 : Moved D WJ w5 := (Moved.start Kj.out.m.deck).below (B4.out.trans (hb.mono B4.out.size))
          have K5 := Lib.hid (Kj.out.moved m5); have HK5 := Lib.hid (HKj.out.movedD m5); have HM5 := Lib.hid (HMj.out.trans m5)
          clear hb HA HB HA2 HLL HX d1 B3 B4 m5
          obtain ⟨p0, p1, p2, p3⟩ := cellsS K5.out.y; obtain ⟨x0, x1, x2⟩ := cells3 K5.out.x
          have m0 : Moved D w5 w5.drew := (Moved.start K5.out.m.deck).drew
          have zD5 := K5.out.m.deck.lt
          have HT := Lib.hid (show ∀ w', Moved D w5 w' → (w'.cell? ⟨Y, 0, none⟩ = some (.slice af N cf) ∧ w'.cell? ⟨Y, 1, none⟩ = some (.slice at' nt ct) ∧ w'.cell? ⟨Y, 2, none⟩ = some (.slice an nk cn) ∧ w'.cell? ⟨Y, 3, none⟩ = some (.slice as' ns cs)) ∧ (w'.cell? ⟨w.heap.size + 1, 0, none⟩ = some (.int .i64 r.id) ∧ w'.cell? ⟨w.heap.size + 1, 1, none⟩ = some (.int .i64 r.ver) ∧ w'.cell? ⟨w.heap.size + 1, 2, none⟩ = some (.slice ra r.vals.length rc)) from
            fun w' h => ⟨cellsS (h.blk hyD K5.out.y), cells3 (h.blk (by omega) K5.out.x)⟩)
          go_wp2_with fail
          refine wp_region_noPanic ?_
          refine wp_region_held_drew (S := (fun w' => (w'.cell? ⟨Y, 0, none⟩ = some (.slice af N cf) ∧ w'.cell? ⟨Y, 1, none⟩ = some (.slice at' nt ct) ∧ w'.cell? ⟨Y, 2, none⟩ = some (.slice an nk cn) ∧ w'.cell? ⟨Y, 3, none⟩ = some (.slice as' ns cs)) ∧ (w'.cell? ⟨w.heap.size + 1, 0, none⟩ = some (.int .i64 r.id) ∧ w'.cell? ⟨w.heap.size + 1, 1, none⟩ = some (.int .i64 r.ver) ∧ w'.cell? ⟨w.heap.size + 1, 2, none⟩ = some (.slice ra r.vals.length rc)))) (by kernel_rfl) (HT.out _ m0) (fun hHeld => ?_)
          refine tH 0 (h := ?_)
          refine tH 1 (h := ?_)
          refine tH 2 (h := ?_)
          refine tH 6 (h := ?_)
          refine wpAnyH_ready (rs := [3]) (by kernel_rfl) (by simp) ?_
          refine AllReadyH.cons rfl (fun K hK => ?_) AllReadyH.nil
          go_simp
          refine (record_deal D S _ _ _ _ s 3 _ m0.deck (K5.out.sa.moved K5.out.ne m0) K5.out.ne HSD.out (by omega) (by omega)).mono ?_; rintro e y1 ⟨_, q1, rfl, ⟨_, rfl, hv1⟩, hid1, hck1, hsh1, mv1⟩; obtain ⟨qa1, qc1, rfl⟩ := hv1.slice; have HV1 := Lib.hid hv1; have HQ1 := Lib.hid (ShortR.of HSD.out.check hck1); have m1 := m0.trans mv1; clear hid1 hsh1 hck1 hv1
          refine hK.out _ _ (HT.out _ m1) (fun hHeld => ?_)
          clear hK K
          try simp only [List.getElem_toArray, List.getElem_cons_zero, List.getElem_cons_succ, Act.put, List.setIfInBounds_toArray, List.set_cons_zero, List.set_cons_succ]
          refine wpAnyH_ready (rs := [4]) (by kernel_rfl) (by simp) ?_
          refine AllReadyH.cons rfl (fun K hK => ?_) AllReadyH.nil
          go_simp
          skip
          refine hK.out _ _ (HT.out _ (m1.alloc _)) (fun hHeld => ?_)
          clear hK K
          try simp only [List.getElem_toArray, List.getElem_cons_zero, List.getElem_cons_succ, Act.put, List.setIfInBounds_toArray, List.set_cons_zero, List.set_cons_succ]
          refine tH 5 (h := ?_)
          refine wpAnyH_done (by kernel_rfl) ?_ _
          refine NoPanic.normal ?_
          clear p0 p1 p2 p3 x0 x1 x2
          go_wp2_with fail
          refine wp_world (fun WQ hWQ => ?_)
          have mL : Moved D w5 WQ := by rw [hWQ]; exact m1.alloc _
          have y12 := mv1.size
          have gQ : WQ.heap[y1.heap.size]? = some (.cells ((([(⟨r.id, r.ver, ra, r.vals.length, rc, r.vals⟩ : RV), ⟨q1.id, q1.ver, qa1, q1.vals.length, qc1, q1.vals⟩] : List RV)).flatMap encRV).toArray 29 (0, 0)) := by rw [hWQ]; exact blk_new rfl
          have hv1 : Vec WQ Any1 1 encS (.slice qa1 q1.vals.length qc1) q1.vals := by
            rw [hWQ]; exact (HV1.out.below ((Below.refl _ _).alloc (Nat.le_refl _) _)).any
          have KQ := Lib.hid (K5.out.moved mL); have HKQ := Lib.hid (HK5.out.movedD mL); have HMQ := Lib.hid (HM5.out.trans mL)
          have HRS := Lib.hid (show RecsVec WQ Any1 (.slice (some ⟨y1.heap.size, 0, none⟩) 2 2) [r, q1] from
            ⟨[(⟨r.id, r.ver, ra, r.vals.length, rc, r.vals⟩ : RV), ⟨q1.id, q1.ver, qa1, q1.vals.length, qc1, q1.vals⟩], blockVec (k := 3) (enc := encRV) (fun _ => rfl) gQ trivial 2 rfl, rfl, by
              intro x hx
              simp only [List.mem_cons, List.not_mem_nil, or_false] at hx
              rcases hx with rfl | rfl
              · exact KQ.out.vv.any
              · exact hv1⟩)
          have HSR := Lib.hid (show ∀ q ∈ [r, q1], ShortR q by
            intro q hq
            simp only [List.mem_cons, List.not_mem_nil, or_false] at hq
            rcases hq with rfl | rfl
            · exact HRr.out
            · exact HQ1.out)
          obtain ⟨T2, hT2⟩ : ∃ T, y1.heap.size = T := ⟨_, rfl⟩
          rw [hT2] at HRS ⊢
          obtain ⟨QS, hQS⟩ : ∃ QS, [r, q1] = QS := ⟨_, rfl⟩
          have hQl : QS.length = 2 := by rw [← hQS]; rfl
          rw [hQS] at HRS HSR
          have HQl := Lib.hid hQl
          have LYQ := Lib.hid (show Y < WQ.heap.size from lt_of_blk KQ.out.y); have LKQ := Lib.hid (show w.heap.size < WQ.heap.size from lt_of_blk KQ.out.k)
          clear hWQ hT2 mL y12 gQ hv1 HV1 HQ1 m0 m1 mv1 HT hQS hQl K5 HK5 HM5 Kj HKj
          go_loopw [177] (fun i wr => ∃ m : Nat, m ≤ 2 ∧ i = .int .i64 m ∧ Below WQ.heap.size WQ wr) (fun i _ => 2 - (intOf i).toNat)
          case atStart => exact ⟨0, by omega, rfl, Below.refl _ _⟩
          case round =>
            obtain ⟨m, hm, rfl, hbm⟩ := hrel
            obtain ⟨WM, hWM⟩ : ∃ u, u = wr := ⟨_, rfl⟩
            subst hWM
            have HBm := Lib.hid hbm
            by_cases hlt3 : m < 2
            · have hq3 : decide ((m : Int) < 2) = true := by simp; omega
              have hml : m < QS.length := by rw [HQl.out]; exact hlt3
              obtain ⟨b, off, id, ver, aa, nn, cc, vals, e, lb, c0, c1, c2, hRk, hvv⟩ := (HRS.out.below hbm).at m hml
              cases e
              rw [Nat.zero_add] at c0 c1 c2
              have hnn := hvv.len.1
              subst hnn
              have hsq := HSR.out _ (List.getElem_mem hml)
              rw [hRk] at hsq
              have HVV := Lib.hid hvv; have HSq := Lib.hid hsq
              obtain ⟨p0, p1, p2, p3⟩ := cellsS (blk_below hbm LYQ.out KQ.out.y); obtain ⟨k0, k1⟩ := cells2K (blk_below hbm LKQ.out KQ.out.k)
              have ly := Nat.lt_of_lt_of_le LYQ.out hbm.size; have lk := Nat.lt_of_lt_of_le LKQ.out hbm.size
              obtain ⟨⟨⟨h1, b1⟩, e1⟩, hH⟩ : ∃ p, hashX s key Ks u ⟨id, ver, vals⟩ = p := ⟨_, rfl⟩
              have HH := Lib.hid hH
              have d1 : (h1 != h1) = false := by simp
              have d2 : (b1 != b1) = false := by simp
              have d3 : (e1 != e1) = false := by simp
              clear hvv hRk hsq hml hbm hH
              go_wp2_with fail
              refine wp_calls_world (fun n0 hn => ?_)
              have bn : Below WM.heap.size WM n0 := by rw [hn]; exact (Below.refl _ _).alloc (Nat.le_refl _) _
              have hU : n0.heap[WM.heap.size]? = some (.cells #[.int .i64 id, .int .i64 ver, .slice aa vals.length cc] 29 (0, 0)) := by rw [hn]; exact blk_new rfl
              have HU := Lib.hid hU; have Bn := Lib.hid (HBm.out.trans (bn.mono HBm.out.size)); have HVn := Lib.hid (HVV.out.below bn)
              clear bn hn hU p0 p1 p2 p3 k0 k1 ly lk c0 c1 c2 lb
              refine (bHash_any S (Off D) _ _ _ _ _ s key Ks u ⟨id, ver, vals⟩ _ _ (KQ.out.sa.below Bn.out) (HKQ.out.below Bn.out) HVn.out HSD.out.check HSq.out.s6 HSq.out.n6 HNf.out (by omega) HKC.out).mono ?_
              rw [HH.out]
              rintro e n1 ⟨rfl, hb⟩
              have B1 := Lib.hid (Bn.out.trans (hb.mono Bn.out.size)); have HU1 := Lib.hid (blk_below hb (lt_of_blk HU.out) HU.out); have HV1 := Lib.hid (HVn.out.below hb)
              clear hb
              dsimp only
              obtain ⟨p0, p1, p2, p3⟩ := cellsS (blk_below B1.out LYQ.out KQ.out.y); obtain ⟨k0, k1⟩ := cells2K (blk_below B1.out LKQ.out KQ.out.k); obtain ⟨c0, c1, c2⟩ := cells3 HU1.out
              go_wp2_with fail
              refine (rHash_any S (Off D) _ _ _ _ _ s key Ks u ⟨id, ver, vals⟩ _ _ (KQ.out.sa.below B1.out) (HKQ.out.below B1.out) HV1.out HSD.out.check HSq.out.s6 HSq.out.n6 HNf.out (by omega) HKC.out).mono ?_
              rw [HH.out]
              rintro e n2 ⟨rfl, hb⟩
              have B2 := Lib.hid (B1.out.trans (hb.mono B1.out.size))
              clear hb p0 p1 p2 p3 k0 k1 c0 c1 c2
              dsimp only
              go_wp2_with fail
              go_roundw
              case rel => exact ⟨m + 1, by omega, by go_num, B2.out⟩
              case measure => simp [intOf]; omega
            · have hq3 : decide ((m : Int) < 2) = false := by simp; omega
              have HM2 := Lib.hid (HMQ.out.below hbm)
              clear hbm
              go_wp2_with fail
              go_roundw
              case rel => exact ⟨j + 1, by omega, by go_num, HM2.out⟩
              case measure => simp [intOf]; omega
        · have hq2 : decide ((j : Int) < 3) = false := by simp; omega
          have HM2 := Lib.hid (HMI.out.trans mj)
          clear mj
          go_wp2_with fail
          go_roundw
          case rel => exact ⟨k + 1, by omega, by go_num, HM2.out⟩
          case measure => simp [intOf]; omega
    · have hq : decide ((k : Int) < 4) = false := by simp; omega
      have hfin := Lib.hid mk
      clear mk HMk Kk
      go_wp2_with fail
      first | exact hfin | exact hK _ _ _ _ _ _ _ _ _ _ _ _ _ _ _ _ _ _ _ _ _ _ _ _ _ _ _ _ _ _ _ _ _ _ _ _ _ _ _ _ _ _ _ _ _ _ _ _ _ _ _ _ _ _ _ _ _ _ _ _ _ _ _ _ _ _ _ _ _ _ _ _ _ _ _ _ _ _ _ _ _ _ _ _ _ _ _ _ _ _ _ _ _ _ _ _ _ _ _ _ _ _ _ _ _ _ _ _ _ _ _ _ _ _ _ _ _ _ _ _ _ _ _ _ _ _ _ _ _ _ _ _ _ _ _ _ _ _ _ _ _ _ _ _ _ _ _ _ _ _ _ _ _ _ _ _ _ _ _ _ _ _ _ _ _ _ _ _ _ _ _ _ _ _ _ _ _ _ _ _ _ _ _ _ _ _ _ _ _ _ _ _ _ _ _ _ _ _ _ _ _ _ _ _ _ _ _ _ _ _ _ _ _ _ _ _ _ _ _ _ _ _ _ _ _ _ _ _ _ _ _ _ _ _ _ _ _ _ _ _ _ _ _ _ _ _ _ _ _ _ _ _ hfin
end
end Go.Proofs.YtaoebplnbcimlaaGreatDoor
