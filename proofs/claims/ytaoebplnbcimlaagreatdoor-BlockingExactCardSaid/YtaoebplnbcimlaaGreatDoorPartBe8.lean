/- Parts of one proof: BlkS, RefBlkA, RefBlkB, RefPhonA, RefPhonB, RefRecD, RefRecE, RefBlkC, RefSipA, RefSipB, RefSipC. -/
import Derived.Test.YtaoebplnbcimlaaGreatDoorPartBe7
set_option linter.unusedSimpArgs false
set_option linter.unusedVariables false
namespace Go.Proofs.YtaoebplnbcimlaaGreatDoor
section
set_option maxRecDepth 100000
open Go.RowKit
theorem key_one {F : List F2} {c : Int × Int} (h : rightC F c = true) : KeyOk F [c] := by
  unfold rightC at h
  simp only [Bool.and_eq_true, decide_eq_true_eq] at h
  exact ⟨by simp, by simp, fun x hx => by simp at hx; subst hx; exact ⟨h.1, h.2.1, h.2.2⟩, fun i hi => by simp at hi⟩
def partX (s : SchemaL) (c : Int × Int) (r : RecL) : List UInt8 := if checkN s r = 0 ∧ rightC s.fields c = true then compN r.vals c else []
set_option maxHeartbeats 4000000 in
theorem bpart_any (S : Nat → Prop) (vf vt vn vs : Value) (s : SchemaL) (c : Int × Int) (r : RecL) (sv : Value) (w : World) (h : SchemaAt w S vf vt vn vs s) (hv : Vec w Any1 1 encS sv r.vals) (hs : ∀ x ∈ r.vals, x.length ≤ 1000000) (hvn : r.vals.length ≤ 1000000) (hn : s.fields.length ≤ 1000) :
    Calls Tryz.prog 25 #[.agg #[vf, vt, vn, vs], .agg #[.int .i64 c.1, .int .i64 c.2], .agg #[.int .i64 r.id, .int .i64 r.ver, sv]] w fun e w' => e = .returned (strV (partX s c r)) ∧ Below w.heap.size w w' := by
  by_cases hr : checkN s r = 0
  · by_cases hrt : rightC s.fields c = true
    · have e : partX s c r = compN r.vals c := by unfold partX; rw [if_pos ⟨hr, hrt⟩]
      rw [e]
      have hk := key_one hrt
      obtain ⟨f0, f1, f2⟩ := hk.fit c (by simp)
      obtain ⟨_, _, g2, g3, g4⟩ := (comps_ok hk hr (check_short hr)).fit c (by simp)
      exact bpart_yes S vf vt vn vs s c r sv w h hv hr (check_short hr) hn f0 f1 f2 g2 g3 g4
    · have e : partX s c r = [] := by unfold partX; rw [if_neg (fun h => hrt h.2)]
      have hrf : rightC s.fields c = false := by simpa using hrt
      rw [e]
      obtain ⟨av, cv, rfl⟩ := hv.slice
      have HS := Lib.hid h; have HV := Lib.hid hv; have HR := Lib.hid hr; have HSh := Lib.hid hs; have HRt := Lib.hid hrf
      have dz : ((0 : Int) != 0) = false := rfl
      obtain ⟨f, t⟩ := c
      obtain ⟨rid, rver, vals⟩ := r
      dsimp only at HV HSh hvn ⊢
      clear h hv hr hs hrt hrf e
      go_enter Tryz.func25, Tryz.ntmps25
      go_wp2_with fail
      refine wp_calls_world (fun W hW => ?_)
      have hb0 : Below w.heap.size w W := by rw [hW]; exact (((Below.refl w.heap.size w).alloc (Nat.le_refl _) _).alloc (by simp) _).alloc (by simp; omega) _
      have hs0 : W.heap[w.heap.size]? = some (.cells #[vf, vt, vn, vs] 43 (0, 0)) := by rw [hW]; exact blk_old (blk_old (blk_new rfl))
      have hc0 : W.heap[w.heap.size + 1]? = some (.cells #[.int .i64 f, .int .i64 t] 31 (0, 0)) := by rw [hW]; exact blk_old (blk_new (by simp))
      clear hW
      refine (rcheck_all S _ _ _ _ s ⟨rid, rver, vals⟩ _ W (HS.out.below hb0) (HV.out.below hb0) HSh.out hvn).mono ?_
      rw [HR.out]
      rintro e w1 ⟨rfl, hb⟩
      have hs1 := blk_below hb (lt_of_blk hs0) hs0; have hc1 := blk_below hb (lt_of_blk hc0) hc0
      have HB1 := Lib.hid (hb0.trans (hb.mono hb0.size))
      obtain ⟨s0, s1, s2, s3⟩ := cellsS hs1; obtain ⟨c0, c1⟩ := cells2K hc1
      clear hb hb0 hs0 hc0 hs1 hc1
      go_wp2_with fail
      refine (bright_any S _ _ _ _ s.fields (f, t) w1 (HS.out.below HB1.out).1 (by omega)).mono ?_
      rw [HRt.out]
      rintro e w2 ⟨rfl, hb⟩
      have HB2 := Lib.hid (HB1.out.trans (hb.mono HB1.out.size))
      clear hb s0 s1 s2 s3 c0 c1
      go_wp2_with fail
      go_ret
      exact ⟨rfl, HB2.out⟩
  · have e : partX s c r = [] := by unfold partX; rw [if_neg (fun h => hr h.1)]
    rw [e]
    obtain ⟨av, cv, rfl⟩ := hv.slice
    obtain ⟨ce, hce⟩ : ∃ ce, checkN s r = ce := ⟨_, rfl⟩
    rw [hce] at hr
    have HS := Lib.hid h; have HV := Lib.hid hv; have HR := Lib.hid hce; have HSh := Lib.hid hs
    have dne : (ce != (0 : Int)) = true := by simpa using hr
    obtain ⟨f, t⟩ := c
    obtain ⟨rid, rver, vals⟩ := r
    dsimp only at HV HSh hvn ⊢
    clear h hv hr hs hce e
    go_enter Tryz.func25, Tryz.ntmps25
    go_wp2_with fail
    refine wp_calls_world (fun W hW => ?_)
    have hb0 : Below w.heap.size w W := by rw [hW]; exact (((Below.refl w.heap.size w).alloc (Nat.le_refl _) _).alloc (by simp) _).alloc (by simp; omega) _
    clear hW
    refine (rcheck_all S _ _ _ _ s ⟨rid, rver, vals⟩ _ W (HS.out.below hb0) (HV.out.below hb0) HSh.out hvn).mono ?_
    rw [HR.out]
    rintro e w1 ⟨rfl, hb⟩
    have HB1 := Lib.hid (hb0.trans (hb.mono hb0.size))
    clear hb hb0
    go_wp2_with fail
    go_ret
    exact ⟨rfl, HB1.out⟩
/-- hash, whether there is one, and the error -/
def hashX (s : SchemaL) (k : Int × Int) (Ks : List (List (Int × Int))) (i : Int) (r : RecL) : (Int × Bool) × Int :=
  if checkKI s.fields Ks i = 0 then (if checkN s r = 0 then (bhashN k i.toNat ((Ks.getD i.toNat []).map (compN r.vals)), 0) else ((0, false), checkN s r)) else ((0, false), checkKI s.fields Ks i)
theorem checkKI_ok {F : List F2} {Ks : List (List (Int × Int))} {i : Int} (h : checkKI F Ks i = 0) : KeysOk F Ks ∧ ∃ n : Nat, i = n ∧ n < Ks.length := by
  unfold checkKI at h
  split at h
  · next h1 =>
    split at h
    · cases h
    · next h2 => exact ⟨checkK_ok h1, i.toNat, by omega, by omega⟩
  · next h1 => exact absurd h h1
set_option maxHeartbeats 4000000 in
theorem bHash_any (S T : Nat → Prop) (vf vt vn vs kv : Value) (s : SchemaL) (k : Int × Int) (Ks : List (List (Int × Int))) (i : Int) (r : RecL) (sv : Value) (w : World) (h : SchemaAt w S vf vt vn vs s) (hk : KeysVec w T kv Ks) (hv : Vec w Any1 1 encS sv r.vals) (hc : checkS s = 0) (hs : ∀ x ∈ r.vals, x.length ≤ 1000000) (hvn : r.vals.length ≤ 1000000) (hn : s.fields.length ≤ 1000) (hl : Ks.length ≤ 1000000) (hK : ∀ K ∈ Ks, K.length ≤ 1000000) :
    Calls Tryz.prog 23 #[.agg #[vf, vt, vn, vs], .agg #[.int .u64 k.1, .int .u64 k.2], kv, .int .i64 i, .agg #[.int .i64 r.id, .int .i64 r.ver, sv]] w fun e w' =>
      e = .returned (.tuple #[.int .u64 (hashX s k Ks i r).1.1, .bool (hashX s k Ks i r).1.2, .int .i64 (hashX s k Ks i r).2]) ∧ Below w.heap.size w w' := by
  obtain ⟨ce, hce⟩ : ∃ ce, checkKI s.fields Ks i = ce := ⟨_, rfl⟩
  by_cases hc0 : ce = 0
  · rw [hc0] at hce
    obtain ⟨hok, n, rfl, hn2⟩ := checkKI_ok hce
    by_cases hr : checkN s r = 0
    · have e : hashX s k Ks (n : Int) r = (bhashN k n ((Ks.getD n []).map (compN r.vals)), 0) := by unfold hashX; rw [if_pos hce, if_pos hr, Int.toNat_natCast]
      rw [e]
      exact bHash_yes S T vf vt vn vs kv s k Ks n r sv w h hk hv hr (check_short hr) hn hok hn2
    · have e : hashX s k Ks (n : Int) r = ((0, false), checkN s r) := by unfold hashX; rw [if_pos hce, if_neg hr]
      rw [e]
      obtain ⟨cr, hcr⟩ : ∃ cr, checkN s r = cr := ⟨_, rfl⟩
      rw [hcr] at hr ⊢
      dsimp only
      obtain ⟨ak, ck, rfl⟩ := hk.slice
      obtain ⟨av, cv, rfl⟩ := hv.slice
      have HS := Lib.hid h; have HK := Lib.hid hk; have HV := Lib.hid hv; have HR := Lib.hid hcr; have HSh := Lib.hid hs; have HC := Lib.hid hc; have HCe := Lib.hid hce; have HKl := Lib.hid hK
      have dz : ((0 : Int) != 0) = false := rfl
      have dne : (cr != (0 : Int)) = true := by simpa using hr
      obtain ⟨rid, rver, vals⟩ := r
      dsimp only at HV HSh hvn ⊢
      clear h hk hv hcr hs hc hce hK e hr hok
      go_enter Tryz.func23, Tryz.ntmps23
      go_wp2_with fail
      refine wp_calls_world (fun W hW => ?_)
      have hb0 : Below w.heap.size w W := by rw [hW]; exact (((Below.refl w.heap.size w).alloc (Nat.le_refl _) _).alloc (by simp) _).alloc (by simp; omega) _
      have hs0 : W.heap[w.heap.size]? = some (.cells #[vf, vt, vn, vs] 43 (0, 0)) := by rw [hW]; exact blk_old (blk_old (blk_new rfl))
      have hr0 : W.heap[w.heap.size + 2]? = some (.cells #[.int .i64 rid, .int .i64 rver, .slice av vals.length cv] 29 (0, 0)) := by rw [hW]; exact blk_new (by simp)
      clear hW
      refine (bcheck_any S T _ _ _ _ _ s Ks n W (HS.out.below hb0) (HK.out.below hb0) HC.out (by omega) hl HKl.out).mono ?_
      rw [HCe.out]
      rintro e w1 ⟨rfl, hb⟩
      have hs1 := blk_below hb (lt_of_blk hs0) hs0; have hr1 := blk_below hb (lt_of_blk hr0) hr0
      have HB1 := Lib.hid (hb0.trans (hb.mono hb0.size))
      obtain ⟨s0, s1, s2, s3⟩ := cellsS hs1; obtain ⟨r0, r1, r2⟩ := cells3 hr1
      clear hb hb0 hs0 hr0 hs1 hr1
      go_wp2_with fail
      refine (rcheck_all S _ _ _ _ s ⟨rid, rver, vals⟩ _ w1 (HS.out.below HB1.out) (HV.out.below HB1.out) HSh.out hvn).mono ?_
      rw [HR.out]
      rintro e w2 ⟨rfl, hb⟩
      have HB2 := Lib.hid (HB1.out.trans (hb.mono HB1.out.size))
      clear hb s0 s1 s2 s3 r0 r1 r2
      go_wp2_with fail
      go_ret3
      exact ⟨rfl, HB2.out⟩
  · have e : hashX s k Ks i r = ((0, false), ce) := by unfold hashX; rw [if_neg (by rw [hce]; exact hc0), hce]
    rw [e]
    dsimp only
    obtain ⟨ak, ck, rfl⟩ := hk.slice
    obtain ⟨av, cv, rfl⟩ := hv.slice
    have HS := Lib.hid h; have HK := Lib.hid hk; have HC := Lib.hid hc; have HCe := Lib.hid hce; have HKl := Lib.hid hK
    have dne : (ce != (0 : Int)) = true := by simpa using hc0
    clear h hk hv hs hc hce hK e hc0
    go_enter Tryz.func23, Tryz.ntmps23
    go_wp2_with fail
    refine wp_calls_world (fun W hW => ?_)
    have hb0 : Below w.heap.size w W := by rw [hW]; exact (((Below.refl w.heap.size w).alloc (Nat.le_refl _) _).alloc (by simp) _).alloc (by simp; omega) _
    clear hW
    refine (bcheck_any S T _ _ _ _ _ s Ks i W (HS.out.below hb0) (HK.out.below hb0) HC.out (by omega) hl HKl.out).mono ?_
    rw [HCe.out]
    rintro e w1 ⟨rfl, hb⟩
    have HB1 := Lib.hid (hb0.trans (hb.mono hb0.size))
    clear hb hb0
    go_wp2_with fail
    go_ret3
    exact ⟨rfl, HB1.out⟩
/-- blocks, and the error -/
def blocksX (s : SchemaL) (k : Int × Int) (Ks : List (List (Int × Int))) (i : Int) (R : List RecL) : List BkP × Int :=
  if checkKI s.fields Ks i = 0 then (if allN s R = 0 then (blocksN k i.toNat (Ks.getD i.toNat []) R, 0) else ([], allN s R)) else ([], checkKI s.fields Ks i)
def BlocksXPost (p : List BkP × Int) (w : World) (e : Ending) (w' : World) : Prop := ∃ v, e = .returned (.tuple #[v, .int .i64 p.2]) ∧ BlocksAt w' (fun b => w.heap.size ≤ b) v p.1 ∧ Below w.heap.size w w'
theorem BlocksAt.nil (w : World) (S : Nat → Prop) : BlocksAt w S (.slice none 0 0) [] := ⟨[], Vec.nil _ _ _ _, rfl, fun x h => by simp at h⟩
set_option maxHeartbeats 4000000 in
theorem bBlocks_any (S T : Nat → Prop) (vf vt vn vs kv rv : Value) (s : SchemaL) (k : Int × Int) (Ks : List (List (Int × Int))) (i : Int) (R : List RecL) (w : World) (h : SchemaAt w S vf vt vn vs s) (hk : KeysVec w T kv Ks) (hr : RecsVec w Any1 rv R) (hc : checkS s = 0) (hs : ∀ r ∈ R, ∀ x ∈ r.vals, x.length ≤ 1000000) (hvn : ∀ r ∈ R, r.vals.length ≤ 1000000) (hRl : R.length ≤ 1000000) (hn : s.fields.length ≤ 1000) (hl : Ks.length ≤ 1000000) (hK : ∀ K ∈ Ks, K.length ≤ 1000000) :
    Calls Tryz.prog 19 #[.agg #[vf, vt, vn, vs], .agg #[.int .u64 k.1, .int .u64 k.2], kv, .int .i64 i, rv] w (BlocksXPost (blocksX s k Ks i R) w) := by
  obtain ⟨ce, hce⟩ : ∃ ce, checkKI s.fields Ks i = ce := ⟨_, rfl⟩
  by_cases hc0 : ce = 0
  · rw [hc0] at hce
    obtain ⟨hok, n, rfl, hn2⟩ := checkKI_ok hce
    by_cases hR : allN s R = 0
    · have e : blocksX s k Ks (n : Int) R = (blocksN k n (Ks.getD n []) R, 0) := by unfold blocksX; rw [if_pos hce, if_pos hR, Int.toNat_natCast]
      rw [e]
      exact bBlocks_yes S T vf vt vn vs kv rv s k Ks n R w h hk hr (recs_of_all hR) hn hok hn2
    · have e : blocksX s k Ks (n : Int) R = ([], allN s R) := by unfold blocksX; rw [if_pos hce, if_neg hR]
      rw [e]
      obtain ⟨cr, hcr⟩ : ∃ cr, allN s R = cr := ⟨_, rfl⟩
      rw [hcr] at hR ⊢
      obtain ⟨ak, ck, rfl⟩ := hk.slice
      obtain ⟨ar, cr', rfl⟩ := hr.slice
      have HS := Lib.hid h; have HK := Lib.hid hk; have HV := Lib.hid hr; have HR := Lib.hid hcr; have HSh := Lib.hid hs; have HC := Lib.hid hc; have HCe := Lib.hid hce; have HKl := Lib.hid hK; have HVn := Lib.hid hvn
      have dz : ((0 : Int) != 0) = false := rfl
      have dne : (cr != (0 : Int)) = true := by simpa using hR
      clear h hk hr hcr hs hc hce hK e hR hok hvn
      go_enter Tryz.func19, Tryz.ntmps19
      go_wp2_with fail
      refine wp_calls_world (fun W hW => ?_)
      have hb0 : Below w.heap.size w W := by rw [hW]; exact ((Below.refl w.heap.size w).alloc (Nat.le_refl _) _).alloc (by simp) _
      have hs0 : W.heap[w.heap.size]? = some (.cells #[vf, vt, vn, vs] 43 (0, 0)) := by rw [hW]; exact blk_old (blk_new rfl)
      clear hW
      refine (bcheck_any S T _ _ _ _ _ s Ks n W (HS.out.below hb0) (HK.out.below hb0) HC.out (by omega) hl HKl.out).mono ?_
      rw [HCe.out]
      rintro e w1 ⟨rfl, hb⟩
      have hs1 := blk_below hb (lt_of_blk hs0) hs0
      have HB1 := Lib.hid (hb0.trans (hb.mono hb0.size))
      obtain ⟨s0, s1, s2, s3⟩ := cellsS hs1
      clear hb hb0 hs0 hs1
      go_wp2_with fail
      refine (rall_any S Any1 _ _ _ _ _ s R w1 (HS.out.below HB1.out) (HV.out.below HB1.out) HSh.out HVn.out hRl).mono ?_
      rw [HR.out]
      rintro e w2 ⟨rfl, hb⟩
      have HB2 := Lib.hid (HB1.out.trans (hb.mono HB1.out.size))
      clear hb s0 s1 s2 s3
      go_wp2_with fail
      go_ret2
      exact ⟨_, rfl, BlocksAt.nil _ _, HB2.out⟩
  · have e : blocksX s k Ks i R = ([], ce) := by unfold blocksX; rw [if_neg (by rw [hce]; exact hc0), hce]
    rw [e]
    obtain ⟨ak, ck, rfl⟩ := hk.slice
    obtain ⟨ar, cr', rfl⟩ := hr.slice
    have HS := Lib.hid h; have HK := Lib.hid hk; have HC := Lib.hid hc; have HCe := Lib.hid hce; have HKl := Lib.hid hK
    have dne : (ce != (0 : Int)) = true := by simpa using hc0
    clear h hk hr hs hc hce hK e hc0 hvn
    go_enter Tryz.func19, Tryz.ntmps19
    go_wp2_with fail
    refine wp_calls_world (fun W hW => ?_)
    have hb0 : Below w.heap.size w W := by rw [hW]; exact ((Below.refl w.heap.size w).alloc (Nat.le_refl _) _).alloc (by simp) _
    clear hW
    refine (bcheck_any S T _ _ _ _ _ s Ks i W (HS.out.below hb0) (HK.out.below hb0) HC.out (by omega) hl HKl.out).mono ?_
    rw [HCe.out]
    rintro e w1 ⟨rfl, hb⟩
    have HB1 := Lib.hid (hb0.trans (hb.mono hb0.size))
    clear hb hb0
    go_wp2_with fail
    go_ret2
    exact ⟨_, rfl, BlocksAt.nil _ _, HB1.out⟩
/-- lists of blocks, and the error -/
def allX (s : SchemaL) (k : Int × Int) (Ks : List (List (Int × Int))) (R : List RecL) : List (List BkP) × Int :=
  if checkK s.fields Ks = 0 then (if allN s R = 0 then (blksN k Ks R Ks.length, 0) else ([], allN s R)) else ([], checkK s.fields Ks)
def AllXPost (p : List (List BkP) × Int) (w : World) (e : Ending) (w' : World) : Prop := ∃ v, e = .returned (.tuple #[v, .int .i64 p.2]) ∧ BListsAt w' (fun b => w.heap.size ≤ b) v p.1 ∧ Below w.heap.size w w'
theorem BListsAt.nil (w : World) (S : Nat → Prop) : BListsAt w S (.slice none 0 0) [] := ⟨[], Vec.nil _ _ _ _, rfl, fun n h => by simp at h⟩
set_option maxHeartbeats 4000000 in
theorem bAll_any (S T : Nat → Prop) (vf vt vn vs kv rv : Value) (s : SchemaL) (k : Int × Int) (Ks : List (List (Int × Int))) (R : List RecL) (w : World) (h : SchemaAt w S vf vt vn vs s) (hk : KeysVec w T kv Ks) (hr : RecsVec w Any1 rv R) (hc : checkS s = 0) (hs : ∀ r ∈ R, ∀ x ∈ r.vals, x.length ≤ 1000000) (hvn : ∀ r ∈ R, r.vals.length ≤ 1000000) (hRl : R.length ≤ 1000000) (hn : s.fields.length ≤ 1000) (hl : Ks.length ≤ 1000000) (hK : ∀ K ∈ Ks, K.length ≤ 1000000) :
    Calls Tryz.prog 16 #[.agg #[vf, vt, vn, vs], .agg #[.int .u64 k.1, .int .u64 k.2], kv, rv] w (AllXPost (allX s k Ks R) w) := by
  obtain ⟨ce, hce⟩ : ∃ ce, checkK s.fields Ks = ce := ⟨_, rfl⟩
  by_cases hc0 : ce = 0
  · rw [hc0] at hce
    have hok := checkK_ok hce
    by_cases hR : allN s R = 0
    · have e : allX s k Ks R = (blksN k Ks R Ks.length, 0) := by unfold allX; rw [if_pos hce, if_pos hR]
      rw [e]
      exact bAll_yes S T vf vt vn vs kv rv s k Ks R w h hk hr (recs_of_all hR) hn hok
    · have e : allX s k Ks R = ([], allN s R) := by unfold allX; rw [if_pos hce, if_neg hR]
      rw [e]
      obtain ⟨cr, hcr⟩ : ∃ cr, allN s R = cr := ⟨_, rfl⟩
      rw [hcr] at hR ⊢
      obtain ⟨ak, ck, rfl⟩ := hk.slice
      obtain ⟨ar, cr', rfl⟩ := hr.slice
      have HS := Lib.hid h; have HK := Lib.hid hk; have HV := Lib.hid hr; have HR := Lib.hid hcr; have HSh := Lib.hid hs; have HC := Lib.hid hc; have HCe := Lib.hid hce; have HKl := Lib.hid hK; have HVn := Lib.hid hvn
      have dz : ((0 : Int) != 0) = false := rfl
      have dne : (cr != (0 : Int)) = true := by simpa using hR
      clear h hk hr hcr hs hc hce hK e hR hok hvn
      go_enter Tryz.func16, Tryz.ntmps16
      go_wp2_with fail
      refine wp_calls_world (fun W hW => ?_)
      have hb0 : Below w.heap.size w W := by rw [hW]; exact ((Below.refl w.heap.size w).alloc (Nat.le_refl _) _).alloc (by simp) _
      have hs0 : W.heap[w.heap.size]? = some (.cells #[vf, vt, vn, vs] 43 (0, 0)) := by rw [hW]; exact blk_old (blk_new rfl)
      clear hW
      refine (bchk_any S T _ _ _ _ _ s Ks W (HS.out.below hb0) (HK.out.below hb0) HC.out (by omega) hl HKl.out).mono ?_
      rw [HCe.out]
      rintro e w1 ⟨rfl, hb⟩
      have hs1 := blk_below hb (lt_of_blk hs0) hs0
      have HB1 := Lib.hid (hb0.trans (hb.mono hb0.size))
      obtain ⟨s0, s1, s2, s3⟩ := cellsS hs1
      clear hb hb0 hs0 hs1
      go_wp2_with fail
      refine (rall_any S Any1 _ _ _ _ _ s R w1 (HS.out.below HB1.out) (HV.out.below HB1.out) HSh.out HVn.out hRl).mono ?_
      rw [HR.out]
      rintro e w2 ⟨rfl, hb⟩
      have HB2 := Lib.hid (HB1.out.trans (hb.mono HB1.out.size))
      clear hb s0 s1 s2 s3
      go_wp2_with fail
      go_ret2
      exact ⟨_, rfl, BListsAt.nil _ _, HB2.out⟩
  · have e : allX s k Ks R = ([], ce) := by unfold allX; rw [if_neg (by rw [hce]; exact hc0), hce]
    rw [e]
    obtain ⟨ak, ck, rfl⟩ := hk.slice
    obtain ⟨ar, cr', rfl⟩ := hr.slice
    have HS := Lib.hid h; have HK := Lib.hid hk; have HC := Lib.hid hc; have HCe := Lib.hid hce; have HKl := Lib.hid hK
    have dne : (ce != (0 : Int)) = true := by simpa using hc0
    clear h hk hr hs hc hce hK e hc0 hvn
    go_enter Tryz.func16, Tryz.ntmps16
    go_wp2_with fail
    refine wp_calls_world (fun W hW => ?_)
    have hb0 : Below w.heap.size w W := by rw [hW]; exact ((Below.refl w.heap.size w).alloc (Nat.le_refl _) _).alloc (by simp) _
    clear hW
    refine (bchk_any S T _ _ _ _ _ s Ks W (HS.out.below hb0) (HK.out.below hb0) HC.out (by omega) hl HKl.out).mono ?_
    rw [HCe.out]
    rintro e w1 ⟨rfl, hb⟩
    have HB1 := Lib.hid (hb0.trans (hb.mono hb0.size))
    clear hb hb0
    go_wp2_with fail
    go_ret2
    exact ⟨_, rfl, BListsAt.nil _ _, HB1.out⟩
end
section
set_option maxRecDepth 100000
open Go.RowKit
set_option maxHeartbeats 2000000 in
theorem rfits_any (t k : Int) (w : World) : Calls Tryz.prog 53 #[.int .i64 t, .int .i64 k] w fun e w' => e = .returned (.bool (fitsB t k)) ∧ w = w' := by
  obtain ⟨r, hr⟩ : ∃ r, fitsB t k = r := ⟨_, rfl⟩
  rw [hr]
  unfold fitsB at hr
  have b1 := beq_dec k 1; have b2 := beq_dec k 2; have b4 := beq_dec k 4
  by_cases h1 : t = 1
  · subst h1
    have hr2 : true = r := hr
    subst hr2; clear hr
    go_enter Tryz.func53, Tryz.ntmps53
    go_wp2_with fail
    go_ret
    exact ⟨rfl, rfl⟩
  by_cases h3 : t = 3
  · subst h3
    have hr2 : true = r := hr
    subst hr2; clear hr
    go_enter Tryz.func53, Tryz.ntmps53
    go_wp2_with fail
    go_ret
    exact ⟨rfl, rfl⟩
  rw [if_neg (by omega)] at hr
  have d1 : (t == (1 : Int)) = false := by simpa using h1
  have d3 : (t == (3 : Int)) = false := by simpa using h3
  by_cases h2 : t = 2
  · subst h2
    have hr2 : decide (k = 1) = r := hr
    have HR := Lib.hid (show Ending.returned (.bool (k == 1)) = .returned (.bool r) by rw [b1, hr2])
    clear hr hr2 b1 b2 b4
    go_enter Tryz.func53, Tryz.ntmps53
    go_wp2_with fail
    go_ret
    exact ⟨HR.out, rfl⟩
  rw [if_neg h2] at hr
  have d2 : (t == (2 : Int)) = false := by simpa using h2
  by_cases h4 : t = 4
  · subst h4
    have hr2 : decide (k = 2) = r := hr
    have HR := Lib.hid (show Ending.returned (.bool (k == 2)) = .returned (.bool r) by rw [b2, hr2])
    clear hr hr2 b1 b2 b4
    go_enter Tryz.func53, Tryz.ntmps53
    go_wp2_with fail
    go_ret
    exact ⟨HR.out, rfl⟩
  rw [if_neg h4] at hr
  have d4 : (t == (4 : Int)) = false := by simpa using h4
  by_cases h5 : t = 5
  · subst h5
    have hr2 : decide (k = 4) = r := hr
    have HR := Lib.hid (show Ending.returned (.bool (k == 4)) = .returned (.bool r) by rw [b4, hr2])
    clear hr hr2 b1 b2 b4
    go_enter Tryz.func53, Tryz.ntmps53
    go_wp2_with fail
    go_ret
    exact ⟨HR.out, rfl⟩
  rw [if_neg h5] at hr
  have d5 : (t == (5 : Int)) = false := by simpa using h5
  subst hr
  clear b1 b2 b4 h1 h2 h3 h4 h5
  go_enter Tryz.func53, Tryz.ntmps53
  go_wp2_with fail
  go_ret
  exact ⟨rfl, rfl⟩
set_option maxHeartbeats 4000000 in
theorem rbefore_any (a b : Int × Int) (w : World) :
    Calls Tryz.prog 54 #[.agg #[.int .i64 a.1, .int .i64 a.2], .agg #[.int .i64 b.1, .int .i64 b.2]] w fun e w' => e = .returned (.bool (beforeB a b)) ∧ Below w.heap.size w w' := by
  obtain ⟨f, t⟩ := a
  obtain ⟨g, u⟩ := b
  obtain ⟨r, hr⟩ : ∃ r, beforeB (f, t) (g, u) = r := ⟨_, rfl⟩
  rw [hr]
  unfold beforeB at hr
  dsimp only at hr ⊢
  by_cases h1 : f < g
  · have d1 : decide (f < g) = true := decide_eq_true h1
    have hr2 : true = r := by rw [← hr]; exact (decide_eq_true (.inl h1)).symm
    subst hr2
    clear hr h1
    go_enter Tryz.func54, Tryz.ntmps54
    go_wp2_with fail
    go_ret
    exact ⟨rfl, ((Below.refl w.heap.size w).alloc (Nat.le_refl _) _).alloc (by simp) _⟩
  · have d1 : decide (f < g) = false := decide_eq_false h1
    by_cases h2 : f = g
    · have d2 : (f == g) = true := by simpa using h2
      by_cases h3 : t < u
      · have d3 : decide (t < u) = true := decide_eq_true h3
        have hr2 : true = r := by rw [← hr]; exact (decide_eq_true (.inr ⟨h2, h3⟩)).symm
        subst hr2
        clear hr h1 h2 h3
        go_enter Tryz.func54, Tryz.ntmps54
        go_wp2_with fail
        go_ret
        exact ⟨rfl, ((Below.refl w.heap.size w).alloc (Nat.le_refl _) _).alloc (by simp) _⟩
      · have d3 : decide (t < u) = false := decide_eq_false h3
        have hr2 : false = r := by rw [← hr]; exact (decide_eq_false (by omega)).symm
        subst hr2
        clear hr h1 h2 h3
        go_enter Tryz.func54, Tryz.ntmps54
        go_wp2_with fail
        go_ret
        exact ⟨rfl, ((Below.refl w.heap.size w).alloc (Nat.le_refl _) _).alloc (by simp) _⟩
    · have d2 : (f == g) = false := by simpa using h2
      have hr2 : false = r := by rw [← hr]; exact (decide_eq_false (by omega)).symm
      subst hr2
      clear hr h1 h2
      go_enter Tryz.func54, Tryz.ntmps54
      go_wp2_with fail
      go_ret
      exact ⟨rfl, ((Below.refl w.heap.size w).alloc (Nat.le_refl _) _).alloc (by simp) _⟩
end
section
set_option maxRecDepth 100000
open Go.RowKit
def badC (F : List F2) (K : List (Int × Int)) (j : Nat) (c : Int × Int) : Bool := !(rightC F c && !badO (prevC K j) c)
set_option maxHeartbeats 16000000 in
theorem rbchk_any (S T : Nat → Prop) (vf vt vn vs kv : Value) (s : SchemaL) (Ks : List (List (Int × Int))) (w : World) (h : SchemaAt w S vf vt vn vs s) (hk : KeysVec w T kv Ks) (hc : checkS s = 0) (hn : s.fields.length ≤ 1000000) (hl : Ks.length ≤ 1000000) (hK : ∀ K ∈ Ks, K.length ≤ 1000000) :
    Calls Tryz.prog 15 #[.agg #[vf, vt, vn, vs], kv] w fun e w' => e = .returned (.int .i64 (checkK s.fields Ks)) ∧ Below w.heap.size w w' := by
  obtain ⟨ak, ck, rfl⟩ := hk.slice
  obtain ⟨af, cf, rfl⟩ := h.1.slice
  have HS := Lib.hid h; have HK := Lib.hid hk; have HC := Lib.hid hc; have HKl := Lib.hid hK
  obtain ⟨E, hE⟩ : ∃ E, checkK s.fields Ks = E := ⟨_, rfl⟩
  rw [hE]
  obtain ⟨N, hN⟩ : ∃ N, s.fields.length = N := ⟨_, rfl⟩
  rw [hN] at hn ⊢
  have HN := Lib.hid hN
  have dz : ((0 : Int) != 0) = false := rfl
  have HE := Lib.hid hE
  clear h hk hc hK hE hN
  go_enter Tryz.func15, Tryz.ntmps15
  go_wp2_with fail
  refine wp_calls_world (fun W hW => ?_)
  have hb0 : Below w.heap.size w W := by rw [hW]; exact (Below.refl w.heap.size w).alloc (Nat.le_refl _) _
  have hs0 : W.heap[w.heap.size]? = some (.cells #[.slice af N cf, vt, vn, vs] 43 (0, 0)) := by rw [hW]; exact blk_new rfl
  clear hW
  have hck := rscheck_any S (.slice af s.fields.length cf) vt vn vs s W (HS.out.below hb0)
  rw [HN.out] at hck
  refine hck.mono ?_
  clear hck
  rw [HC.out]
  rintro e w1 ⟨rfl, hb⟩
  have hs1 := blk_below hb (lt_of_blk hs0) hs0
  have HB1 := Lib.hid (hb0.trans (hb.mono hb0.size)); have HS1 := Lib.hid hs1
  clear hb hb0 hs0 hs1
  by_cases h8 : 8 < Ks.length
  · have d2 : decide ((8 : Int) < (Ks.length : Int)) = true := decide_eq_true (by omega)
    have hE1 : E = 1 := by rw [← HE.out]; unfold checkK; rw [if_pos h8]
    subst hE1
    go_wp2_with fail
    go_ret
    exact ⟨rfl, HB1.out⟩
  · have d2 : decide ((8 : Int) < (Ks.length : Int)) = false := decide_eq_false (by omega)
    have HE2 := Lib.hid (show keysA s.fields Ks = E by rw [← HE.out]; unfold checkK; rw [if_neg h8])
    clear HE
    go_wp2_with fail
    go_loopw [6] (fun i wr => ∃ j : Nat, i = .int .i64 j ∧ j ≤ Ks.length ∧ Hid (keysA s.fields (Ks.drop j) = E) ∧ Below w1.heap.size w1 wr) (fun i _ => Ks.length - (intOf i).toNat)
    case atStart => exact ⟨0, rfl, by omega, HE2, Below.refl _ _⟩
    case round =>
      obtain ⟨i, rfl, hi, HT, hbw⟩ := hrel
      have HBW := Lib.hid hbw
      by_cases hlt : i < Ks.length
      · have hq : decide ((i : Int) < (Ks.length : Int)) = true := by simp; omega
        have hji : (i : Int) < (Ks.length : Int) := by omega
        have hbw0 := HB1.out.trans (hbw.mono HB1.out.size)
        obtain ⟨b, off, c, rfl, lb, c0, hv⟩ := (HK.out.below hbw0).at i hlt
        have hT := HT.out
        rw [List.drop_eq_getElem_cons hlt, keysA_cons] at hT
        have hgd : Ks.getD i [] = Ks[i] := getD_at _ _ hlt
        rw [hgd] at hv
        have hkl := HKl.out _ (List.getElem_mem hlt)
        obtain ⟨K, hKe⟩ : ∃ K, Ks[i] = K := ⟨_, rfl⟩
        rw [hKe] at hT hv hkl
        obtain ⟨ce, hce⟩ : ∃ ce, bkeyN s.fields K = ce := ⟨_, rfl⟩
        rw [hce] at hT
        obtain ⟨ca, cn, cc⟩ := c
        dsimp only at c0 hv
        have hcn := hv.len.1
        subst hcn
        have HV := Lib.hid hv; have HCE := Lib.hid hce; have HT2 := Lib.hid hT
        obtain ⟨u, hu⟩ : ∃ u, u = wr := ⟨_, rfl⟩
        subst hu
        clear hbw hv hT hKe hce hgd HT
        by_cases hl1 : K.length < 1 ∨ 3 < K.length
        · have hc1 : ce = 1 := by rw [← HCE.out]; unfold bkeyN; rw [if_pos hl1]
          have hE1 : E = 1 := by rw [← HT2.out, hc1, if_neg (by decide)]
          subst hE1
          clear HT2 HCE hc1
          by_cases hl2 : K.length < 1
          · have d3 : decide ((K.length : Int) < 1) = true := by simp only [decide_eq_true_eq]; omega
            go_wp2_with fail
            go_ret
            exact ⟨rfl, HB1.out.trans (HBW.out.mono HB1.out.size)⟩
          · have d3 : decide ((K.length : Int) < 1) = false := by simp only [decide_eq_false_iff_not]; omega
            have d4 : decide ((3 : Int) < (K.length : Int)) = true := by simp only [decide_eq_true_eq]; omega
            go_wp2_with fail
            go_ret
            exact ⟨rfl, HB1.out.trans (HBW.out.mono HB1.out.size)⟩
        · have d3 : decide ((K.length : Int) < 1) = false := by simp only [decide_eq_false_iff_not]; omega
          have d4 : decide ((3 : Int) < (K.length : Int)) = false := by simp only [decide_eq_false_iff_not]; omega
          have HCA := Lib.hid (show bkeyA s.fields none K = ce by rw [← HCE.out]; unfold bkeyN; rw [if_neg hl1])
          clear HCE
          go_wp2_with fail
          go_loopw [8] (fun i wr => ∃ j : Nat, i = .int .i64 j ∧ j ≤ K.length ∧ Hid (bkeyA s.fields (prevC K j) (K.drop j) = ce) ∧ Below u.heap.size u wr) (fun i _ => K.length - (intOf i).toNat)
          case atStart => exact ⟨0, rfl, by omega, HCA, Below.refl _ _⟩
          case round =>
            obtain ⟨j, rfl, hj, HTj, hbj⟩ := hrel
            have HBJ := Lib.hid hbj
            have HBj1 := Lib.hid (HB1.out.trans ((HBW.out.trans (hbj.mono HBW.out.size)).mono HB1.out.size))
            by_cases hlj : j < K.length
            · have hq2 : decide ((j : Int) < (K.length : Int)) = true := by simp; omega
              have hji2 : (j : Int) < (K.length : Int) := by omega
              obtain ⟨b2, off2, rfl, lb2, hcx⟩ := (HV.out.below hbj).get j hlj
              have k0 := hcx 0 _ rfl; have k1 := hcx 1 _ rfl
              obtain ⟨⟨f, t⟩, hx⟩ : ∃ x, K[j] = x := ⟨_, rfl⟩
              have hT := HTj.out
              rw [List.drop_eq_getElem_cons hlj, bkeyA_cons, hx] at hT
              rw [hx] at k0 k1
              dsimp only at k0 k1
              rw [Nat.add_zero] at k0
              have hnext : prevC K (j + 1) = some (f, t) := by unfold prevC; rw [if_neg (by omega), show j + 1 - 1 = j by omega, List.getD, List.getElem?_eq_getElem hlj, hx]; rfl
              rw [← hnext] at hT
              obtain ⟨bd, hbd⟩ : ∃ bd, badC s.fields K j (f, t) = bd := ⟨_, rfl⟩
              have hT2 : (if bd = false then bkeyA s.fields (prevC K (j + 1)) (K.drop (j + 1)) else 17) = ce := by
                rw [← hT, ← hbd]
                unfold badC
                cases (rightC s.fields (f, t) && !badO (prevC K j) (f, t)) <;> simp
              have hs1 := blk_below (HBW.out.trans (hbj.mono HBW.out.size)) (lt_of_blk HS1.out) HS1.out
              obtain ⟨s0, s1, s2, s3⟩ := cellsS hs1
              have ls := lt_of_blk hs1
              have HTn := Lib.hid hT2; have HBd := Lib.hid hbd; have HX := Lib.hid hx
              have bD : Below wr.heap.size wr wr.drew := (Below.refl _ _).drew
              clear hT hT2 hnext hbd hx hs1 hcx HTj hbj s1 s2 s3
              go_wp2_with fail
              go_cut [94] (fun s94 wx => s94 = .bool bd ∧ Below wr.heap.size wr wx)
              case first =>
                by_cases hf0 : 0 ≤ f
                · obtain ⟨fn, rfl⟩ := Int.eq_ofNat_of_zero_le hf0
                  have g0 : decide ((fn : Int) < 0) = false := by simp
                  by_cases hf1 : fn < N
                  · have g1 : decide ((N : Int) ≤ (fn : Int)) = false := by simp only [decide_eq_false_iff_not]; omega
                    have g1n : decide (N ≤ fn) = false := by simp only [decide_eq_false_iff_not]; omega
                    have hfi2 : (fn : Int) < (N : Int) := by omega
                    have hfl : fn < s.fields.length := by rw [HN.out]; exact hf1
                    have hvf := HS.out.1
                    rw [HN.out] at hvf
                    obtain ⟨bf, of, rfl, lbf, hcf⟩ := (hvf.below HBj1.out).get fn hfl
                    have x1 := hcf 1 _ rfl
                    obtain ⟨kk, hkk⟩ : ∃ kk, (s.fields.getD fn default).2 = kk := ⟨_, rfl⟩
                    have hkk2 : s.fields[fn].2 = kk := by rw [← hkk, List.getD, List.getElem?_eq_getElem hfl]; rfl
                    rw [hkk2] at x1
                    obtain ⟨fb, hfb⟩ : ∃ fb, fitsB t kk = fb := ⟨_, rfl⟩
                    have hrt : rightC s.fields ((fn : Int), t) = fb := by
                      unfold rightC
                      dsimp only
                      rw [decide_eq_true (show (0 : Int) ≤ (fn : Int) by omega), decide_eq_true (show (fn : Int) < (s.fields.length : Int) by omega), Int.toNat_natCast, hkk, hfb]
                      rfl
                    have hbd := HBd.out
                    unfold badC at hbd
                    rw [hrt] at hbd
                    have HFb := Lib.hid hfb; have HBd2 := Lib.hid hbd
                    clear hvf hcf hkk hkk2 hfb hrt hbd hf0 HBd
                    cases fb
                    · have hb1 : true = bd := by rw [← HBd2.out]; rfl
                      subst hb1
                      clear HBd2
                      have q_s0 := cell_regrown s0
                      have q_k0 := cell_regrown k0
                      have q_k1 := cell_regrown k1
                      have q_x1 := cell_regrown x1
                      have cF := in_regrown wr (fun W _ => (rfits_any t kk W).mono fun e w' h' => (⟨h'.1, by rw [← h'.2]; exact Below.refl _ _⟩ : e = .returned (.bool (fitsB t kk)) ∧ Below W.heap.size W w'))
                      rw [HFb.out] at cF
                      clear bD
                      refine wp_region_quiet_below (by kernel_rfl) (by kernel_rfl) ?_
                      repeat (go_big_quiet_step (first | with_reducible exact cF _ _))
                      refine wpQuiet_nil ?_
                      intro _ hw'
                      obtain ⟨⟨dq, osq⟩, hw''⟩ := hw'
                      subst hw''
                      have HWq := Lib.hid (below_regrown wr dq osq)
                      go_wp2_with fail
                      go_meet
                      exact ⟨rfl, HWq.out⟩
                    · by_cases hj0 : j = 0
                      · have e0 : decide ((0 : Int) < (j : Int)) = false := by simp; omega
                        have e0n : decide (0 < j) = false := by simp; omega
                        have hb1 : false = bd := by
                          rw [← HBd2.out, show prevC K j = none by unfold prevC; rw [if_pos hj0]]; rfl
                        subst hb1
                        clear HBd2 hj0
                        have q_s0 := cell_regrown s0
                        have q_k0 := cell_regrown k0
                        have q_k1 := cell_regrown k1
                        have q_x1 := cell_regrown x1
                        have cF := in_regrown wr (fun W _ => (rfits_any t kk W).mono fun e w' h' => (⟨h'.1, by rw [← h'.2]; exact Below.refl _ _⟩ : e = .returned (.bool (fitsB t kk)) ∧ Below W.heap.size W w'))
                        rw [HFb.out] at cF
                        clear bD
                        refine wp_region_quiet_below (by kernel_rfl) (by kernel_rfl) ?_
                        repeat (go_big_quiet_step (first | with_reducible exact cF _ _))
                        refine wpQuiet_nil ?_
                        intro _ hw'
                        obtain ⟨⟨dq, osq⟩, hw''⟩ := hw'
                        subst hw''
                        have HWq := Lib.hid (below_regrown wr dq osq)
                        go_wp2_with fail
                        go_meet
                        exact ⟨rfl, HWq.out⟩
                      · have e0 : decide ((0 : Int) < (j : Int)) = true := by simp; omega
                        have e0n : decide (0 < j) = true := by simp; omega
                        obtain ⟨p, hp⟩ : ∃ p, j = p + 1 := ⟨j - 1, by omega⟩
                        have hw1 : IntKind.i64.wrap ((j : Int) - 1) = (p : Int) := by rw [IntKind.wrap_i64]; omega
                        have hpi : (p : Int) < (K.length : Int) := by omega
                        obtain ⟨b3, off3, e3, -, hcp⟩ := (HV.out.below HBJ.out).get p (by omega)
                        cases e3
                        have y0 := hcp 0 _ rfl; have y1 := hcp 1 _ rfl
                        rw [Nat.add_zero] at y0
                        obtain ⟨⟨f', t'⟩, hx'⟩ : ∃ x, K.getD p (0, 0) = x := ⟨_, rfl⟩
                        have hx'' : K[p]'(by omega) = (f', t') := by rw [← hx', List.getD, List.getElem?_eq_getElem (by omega)]; rfl
                        rw [hx''] at y0 y1
                        dsimp only at y0 y1
                        obtain ⟨bf2, hbf2⟩ : ∃ q, beforeB (f', t') ((fn : Int), t) = q := ⟨_, rfl⟩
                        have hb1 : (!bf2) = bd := by
                          rw [← HBd2.out, show prevC K j = some (f', t') by unfold prevC; rw [if_neg hj0, show j - 1 = p by omega, hx'], ← hbf2]
                          show _ = (!(true && !decide (0 ≤ orderC (f', t') ((fn : Int), t))))
                          rw [before_order]
                          cases beforeB (f', t') ((fn : Int), t) <;> rfl
                        have HBf := Lib.hid hbf2
                        subst hb1
                        have lk := lb2; have lf := lbf
                        clear HBd2 hcp hx' hx'' hbf2 hp hj0
                        have q_s0 := cell_regrown s0
                        have q_k0 := cell_regrown k0
                        have q_k1 := cell_regrown k1
                        have q_x1 := cell_regrown x1
                        have q_y0 := cell_regrown y0
                        have q_y1 := cell_regrown y1
                        have cF := in_regrown wr (fun W _ => (rfits_any t kk W).mono fun e w' h' => (⟨h'.1, by rw [← h'.2]; exact Below.refl _ _⟩ : e = .returned (.bool (fitsB t kk)) ∧ Below W.heap.size W w'))
                        rw [HFb.out] at cF
                        have cB := in_regrown wr (fun W _ => rbefore_any (f', t') ((fn : Int), t) W)
                        rw [HBf.out] at cB
                        clear bD
                        refine wp_region_quiet_below (by kernel_rfl) (by kernel_rfl) ?_
                        repeat (go_big_quiet_step (first | with_reducible exact cF _ _ | with_reducible exact cB _ _))
                        refine wpQuiet_nil ?_
                        intro _ hw'
                        obtain ⟨⟨dq, osq⟩, hw''⟩ := hw'
                        subst hw''
                        have HWq := Lib.hid (below_regrown wr dq osq)
                        go_wp2_with fail
                        go_meet
                        exact ⟨rfl, HWq.out⟩
                  · have g1 : decide ((N : Int) ≤ (fn : Int)) = true := by simp only [decide_eq_true_eq]; omega
                    have g1n : decide (N ≤ fn) = true := by simp only [decide_eq_true_eq]; omega
                    have hb1 : true = bd := by
                      rw [← HBd.out]; unfold badC rightC; dsimp only
                      rw [decide_eq_false (show ¬ (fn : Int) < (s.fields.length : Int) by rw [HN.out]; omega)]; simp
                    subst hb1
                    clear HBd hf0
                    have q_s0 := cell_regrown s0
                    have q_k0 := cell_regrown k0
                    have q_k1 := cell_regrown k1
                    clear bD
                    refine wp_region_quiet_below (by kernel_rfl) (by kernel_rfl) ?_
                    repeat (go_big_quiet_step (fail))
                    refine wpQuiet_nil ?_
                    intro _ hw'
                    obtain ⟨⟨dq, osq⟩, hw''⟩ := hw'
                    subst hw''
                    have HWq := Lib.hid (below_regrown wr dq osq)
                    go_wp2_with fail
                    go_meet
                    exact ⟨rfl, HWq.out⟩
                · have g0 : decide (f < 0) = true := by simp only [decide_eq_true_eq]; omega
                  have hb1 : true = bd := by
                    rw [← HBd.out]; unfold badC rightC; dsimp only
                    rw [decide_eq_false hf0]; simp
                  subst hb1
                  clear HBd hf0
                  have q_s0 := cell_regrown s0
                  have q_k0 := cell_regrown k0
                  have q_k1 := cell_regrown k1
                  clear bD
                  refine wp_region_quiet_below (by kernel_rfl) (by kernel_rfl) ?_
                  repeat (go_big_quiet_step (fail))
                  refine wpQuiet_nil ?_
                  intro _ hw'
                  obtain ⟨⟨dq, osq⟩, hw''⟩ := hw'
                  subst hw''
                  have HWq := Lib.hid (below_regrown wr dq osq)
                  go_wp2_with fail
                  go_meet
                  exact ⟨rfl, HWq.out⟩
              case rest =>
                obtain ⟨rfl, hb2⟩ := hcut
                have HB2 := Lib.hid (HBJ.out.trans (hb2.mono HBJ.out.size))
                have HB3 := Lib.hid (HBj1.out.trans (hb2.mono HBj1.out.size))
                clear hb2
                cases bd
                · have HT3 := Lib.hid (show bkeyA s.fields (prevC K (j + 1)) (K.drop (j + 1)) = ce by simpa using HTn.out)
                  clear HTn
                  go_wp2_with fail
                  go_roundw
                  case rel => exact ⟨j + 1, by go_num, by omega, HT3, HB2.out⟩
                  case measure => simp [intOf]; omega
                · have hce : ce = 17 := by simpa using HTn.out.symm
                  have hE1 : E = 17 := by rw [← HT2.out, hce, if_neg (by decide)]
                  subst hE1
                  clear HTn HT2 hce
                  go_wp2_with fail
                  go_ret
                  exact ⟨rfl, HB3.out⟩
            · have hq2 : decide ((j : Int) < (K.length : Int)) = false := by simp; omega
              have hce : ce = 0 := by rw [← HTj.out, List.drop_eq_nil_of_le (by omega)]; rfl
              have HT3 := Lib.hid (show keysA s.fields (Ks.drop (i + 1)) = E by rw [← HT2.out, hce, if_pos rfl])
              clear HTj HT2 hce
              go_wp2_with fail
              go_roundw
              case rel => exact ⟨i + 1, by go_num, by omega, HT3, HBW.out.trans (hbj.mono HBW.out.size)⟩
              case measure => simp [intOf]; omega
      · have hq : decide ((i : Int) < (Ks.length : Int)) = false := by simp; omega
        have hE0 : E = 0 := by rw [← HT.out, List.drop_eq_nil_of_le (by omega)]; rfl
        subst hE0
        go_wp2_with fail
        go_ret
        exact ⟨rfl, HB1.out.trans (hbw.mono HB1.out.size)⟩
end
section
set_option maxRecDepth 100000
open Go.RowKit
attribute [local go_sem] toList_mk mk_size bytes_append
theorem digG_in {c d : UInt8} {t : List UInt8} {ts : List (List UInt8)} (h : c ∈ t) : digG c d (t :: ts) = d := by unfold digG; rw [if_pos h]
theorem digG_out {c d : UInt8} {t : List UInt8} {ts : List (List UInt8)} (h : c ∉ t) : digG c d (t :: ts) = digG c (d + 1) ts := by rw [digG, if_neg h]
theorem tab_short (i : Nat) (h : i < tabD.length) : (tabD.getD i []).length ≤ 8 := by
  have : ∀ k : Fin 6, (tabD.getD k []).length ≤ 8 := by decide
  exact this ⟨i, h⟩
theorem byte_ne {c x : UInt8} (h : c ≠ x) : ((c.toNat : Int) == (x.toNat : Int)) = false := by
  rw [beq_eq_false_iff_ne]; intro e; exact h (UInt8.toNat_inj.1 (by omega))
theorem wrap49 (k : Nat) (h : k < 6) : 49 + (k : Int) = ((49 + UInt8.ofNat k).toNat : Int) := by
  have : ∀ k : Fin 6, 49 + (k.val : Int) = ((49 + UInt8.ofNat k.val).toNat : Int) := by decide +kernel
  exact this ⟨k, h⟩
theorem next49 (k : Nat) (h : k < 6) : 49 + UInt8.ofNat k + 1 = 49 + UInt8.ofNat (k + 1) := by
  have : ∀ k : Fin 6, 49 + UInt8.ofNat k.val + 1 = 49 + UInt8.ofNat (k.val + 1) := by decide +kernel
  exact this ⟨k, h⟩
set_option maxHeartbeats 2000000 in
theorem rdigit_any (c : UInt8) (w : World) : Calls Tryz.prog 192 #[byteV c] w fun e w' => e = .returned (byteV (digR c)) ∧ Below w.heap.size w w' := by
  obtain ⟨R, hR⟩ : ∃ R, digR c = R := ⟨_, rfl⟩
  rw [hR]
  unfold digR at hR
  by_cases h1 : c = 104
  · subst h1
    have hR2 : (1 : UInt8) = R := by rw [← hR]; decide
    subst hR2
    clear hR
    unfold byteV
    go_enter Tryz.func192, Tryz.ntmps192
    go_wp2_with fail
    go_ret
    exact ⟨rfl, Below.refl _ _⟩
  by_cases h2 : c = 119
  · subst h2
    have hR2 : (1 : UInt8) = R := by rw [← hR]; decide
    subst hR2
    clear hR h1
    unfold byteV
    go_enter Tryz.func192, Tryz.ntmps192
    go_wp2_with fail
    go_ret
    exact ⟨rfl, Below.refl _ _⟩
  rw [if_neg (by intro h; rcases h with h | h; exact h1 h; exact h2 h)] at hR
  have d1 : ((c.toNat : Int) == 104) = false := byte_ne (x := 104) h1
  have d2 : ((c.toNat : Int) == 119) = false := byte_ne (x := 119) h2
  have HR := Lib.hid hR
  clear hR h1 h2
  unfold byteV
  go_enter Tryz.func192, Tryz.ntmps192
  go_wp2_with fail
  refine wp_world (fun W hW => ?_)
  have hb0 : Below w.heap.size w W := by rw [hW]; exact (Below.refl w.heap.size w).alloc (Nat.le_refl _) _
  have hg : W.heap[w.heap.size]? = some (.cells (tabD.flatMap encS).toArray 9 (0, 0)) := by rw [hW]; exact blk_new rfl
  clear hW
  have HV := Lib.hid (blockVec (k := 1) (enc := encS) (L := tabD) (S := Any1) (A := w.heap.size) (fun _ => rfl) hg trivial 6 rfl)
  have HB := Lib.hid hb0
  clear hg hb0 d1 d2
  go_loopw [4] (fun i wr => ∃ k : Nat, k ≤ 6 ∧ i = .int .i64 k ∧ Below W.heap.size W wr ∧ Hid (digG c (49 + UInt8.ofNat k) (tabD.drop k) = R)) (fun i _ => 6 - (intOf i).toNat)
  case atStart => exact ⟨0, by omega, rfl, Below.refl _ _, HR⟩
  case round =>
    obtain ⟨k, hk, rfl, hbw, HT⟩ := hrel
    have HBw := Lib.hid hbw
    by_cases hlt : k < 6
    · have hq : decide ((k : Int) < 6) = true := by simp; omega
      have hki : (k : Int) < 6 := by omega
      obtain ⟨b, off, e0, lb, hc⟩ := (HV.out.below hbw).get k hlt
      cases e0
      have c0 := hc 0 _ rfl
      obtain ⟨t, ht⟩ : ∃ t, tabD[k] = t := ⟨_, rfl⟩
      have htl : t.length ≤ 8 := by have := tab_short k hlt; rw [List.getD, List.getElem?_eq_getElem hlt] at this; rw [← ht]; exact this
      have hT := HT.out
      rw [List.drop_eq_getElem_cons hlt, ht] at hT
      rw [ht, Nat.mul_one, Nat.add_zero] at c0
      have c0 : wr.cell? ⟨w.heap.size, 0 + k, none⟩ = some (strV t) := c0
      rw [Nat.zero_add] at c0
      have HT2 := Lib.hid hT
      clear hc ht hbw hT HT
      go_wp2_with fail
      go_loopw [5] (fun i wr2 => ∃ m : Nat, m ≤ t.length ∧ i = .int .i64 m ∧ Below wr.heap.size wr wr2 ∧ Hid (∀ j, j < m → t.getD j 0 ≠ c)) (fun i _ => t.length - (intOf i).toNat)
      case atStart => exact ⟨0, by omega, rfl, Below.refl _ _, Lib.hid fun j hj => by omega⟩
      case round =>
        obtain ⟨m, hm, rfl, hb2, HN⟩ := hrel
        have HB2 := Lib.hid hb2
        have c1 := (hb2.cell (p := ⟨w.heap.size, k, none⟩) lb).trans c0
        clear hb2
        by_cases hlm : m < t.length
        · have hq2 : decide ((m : Int) < (t.length : Int)) = true := by simp; omega
          have hmi : (m : Int) < (t.length : Int) := by omega
          obtain ⟨x, hx⟩ : ∃ x, t[m] = x := ⟨_, rfl⟩
          have hgx : ∀ h : m < (⟨t.toArray⟩ : ByteArray).size, (⟨t.toArray⟩ : ByteArray)[m]'h = x := fun h => hx
          have HX := Lib.hid hx
          clear hx
          by_cases hxc : x = c
          · subst hxc
            have d3 : ((x.toNat : Int) == (x.toNat : Int)) = true := by simp
            have hR49 : 49 + UInt8.ofNat k = R := by rw [← HT2.out, digG_in (by rw [← HX.out]; exact List.getElem_mem hlm)]
            have hwr : 49 + (k : Int) = (R.toNat : Int) := by rw [← hR49]; exact wrap49 k hlt
            have HW := Lib.hid (show Ending.returned (.int .u8 (49 + (k : Int))) = .returned (.int .u8 (R.toNat : Int)) by rw [hwr])
            clear hR49 hwr HT2 HN HX
            go_wp2_with fail
            go_ret
            exact ⟨HW.out, HB.out.trans ((HBw.out.trans (HB2.out.mono HBw.out.size)).mono HB.out.size)⟩
          · have d3 : ((x.toNat : Int) == (c.toNat : Int)) = false := byte_ne hxc
            have HN2 := Lib.hid (show ∀ j, j < m + 1 → t.getD j 0 ≠ c from fun j hj => by
              by_cases e : j = m
              · subst e; rw [List.getD, List.getElem?_eq_getElem hlm]; rw [← HX.out] at hxc; exact hxc
              · exact HN.out j (by omega))
            clear HN HX hxc
            go_wp2_with fail
            go_roundw
            case rel => exact ⟨m + 1, by omega, by go_num, HB2.out, HN2⟩
            case measure => simp [intOf]; omega
        · have hq2 : decide ((m : Int) < (t.length : Int)) = false := by simp; omega
          have hno : c ∉ t := fun hc => by
            obtain ⟨j, hj, e⟩ := List.getElem_of_mem hc
            have := HN.out j (by omega)
            rw [List.getD, List.getElem?_eq_getElem hj] at this
            exact this e
          have hT3 := HT2.out
          rw [digG_out hno, show 49 + UInt8.ofNat k + 1 = 49 + UInt8.ofNat (k + 1) from next49 k hlt] at hT3
          have HT3 := Lib.hid hT3
          clear hT3 HT2 HN hno
          go_wp2_with fail
          go_roundw
          case rel => exact ⟨k + 1, by omega, by go_num, HBw.out.trans (HB2.out.mono HBw.out.size), HT3⟩
          case measure => simp [intOf]; omega
    · have hq : decide ((k : Int) < 6) = false := by simp; omega
      obtain rfl : k = 6 := by omega
      have hR0 : (0 : UInt8) = R := HT.out
      subst hR0
      go_wp2_with fail
      go_ret
      exact ⟨rfl, HB.out.trans (hbw.mono HB.out.size)⟩
set_option maxHeartbeats 2000000 in
theorem rright6_any (t : List UInt8) (w : World) (hl : t.length ≤ 1000000) : Calls Tryz.prog 191 #[strV t] w fun e w' => e = .returned (.bool (rightT t)) ∧ Below w.heap.size w w' := by
  obtain ⟨r, hr⟩ : ∃ r, rightT t = r := ⟨_, rfl⟩
  rw [hr]
  unfold rightT at hr
  cases he : t.isEmpty
  · by_cases h64 : t.length ≤ 64
    · have d1 : decide ((t.length : Int) ≤ 64) = true := by simp; omega
      have hr2 : decide (lettersL t = t) = r := by rw [← hr, he]; simp [h64]
      have HR := Lib.hid (show Ending.returned (.bool (lettersL t == t)) = .returned (.bool r) by rw [← hr2]; by_cases h : lettersL t = t <;> simp [h])
      clear hr hr2
      have hlt := Lib.hid (fun w => rletters_any ⟨t.toArray⟩ w (by simpa [ByteArray.size] using hl))
      go_enter Tryz.func191, Tryz.ntmps191
      go_wp2_with fail
      refine (hlt.out _).mono ?_
      rintro e w1 ⟨rfl, rfl⟩
      go_wp2_with fail
      go_ret
      exact ⟨HR.out, Below.refl _ _⟩
    · have d1 : decide ((t.length : Int) ≤ 64) = false := by simp; omega
      have hr2 : false = r := by rw [← hr, he]; simp [h64]
      subst hr2
      clear hr
      go_enter Tryz.func191, Tryz.ntmps191
      go_wp2_with fail
      go_ret
      exact ⟨rfl, Below.refl _ _⟩
  · have hr2 : false = r := by rw [← hr, he]; rfl
    subst hr2
    clear hr
    go_enter Tryz.func191, Tryz.ntmps191
    go_wp2_with fail
    go_ret
    exact ⟨rfl, Below.refl _ _⟩
end
section
set_option maxRecDepth 100000
open Go.RowKit
attribute [local go_sem] toList_mk mk_size bytes_append str_append
@[local go_sem] theorem get_zeroQ (c : UInt8) (l : List UInt8) (h : 0 < (⟨(c :: l).toArray⟩ : ByteArray).size) : (⟨(c :: l).toArray⟩ : ByteArray)[0]'h = c := rfl
def lenStr : Value → Nat
  | .string s => s.size
  | _ => 0
theorem conv_one (d : UInt8) (W : World) : (convert 183 9 (.slice (some ⟨W.heap.size, 0, none⟩) 1 1)).run Tryz.prog (W.alloc (.cells #[.int .u8 (d.toNat : Int)] 5)) = .ok (strV [d]) (W.alloc (.cells #[.int .u8 (d.toNat : Int)] 5)) := by
  have hown := (own_fresh (w0 := W) (w := W.alloc (.cells #[.int .u8 (d.toNat : Int)] 5)) (enc := encB) (L := [d]) (size := 1) (n := 1) (e := 5) (g := W.heap.size) ((Below.refl _ _).alloc (Nat.le_refl _) _) (Nat.le_refl _) (blk_new rfl) rfl (by simp) rfl).1
  exact run_convert_owned (P := Tryz.prog) [d] hown Tryz.underlying183 Tryz.underlying5 Tryz.underlying9
set_option maxHeartbeats 4000000 in
theorem rsound_any (t : List UInt8) (w : World) (hl : t.length ≤ 1000000) : Calls Tryz.prog 126 #[strV t] w fun e w' => e = .returned (strV (soundT t)) ∧ Below w.heap.size w w' := by
  cases hr : rightT t
  · have hs : soundT t = [] := by unfold soundT; rw [hr]; rfl
    rw [hs]
    have HR := Lib.hid hr; clear hr hs
    go_enter Tryz.func126, Tryz.ntmps126
    go_wp2_with fail
    refine (rright6_any t _ hl).mono ?_
    rw [HR.out]
    rintro e w1 ⟨rfl, hb⟩
    go_wp2_with fail
    go_ret
    exact ⟨rfl, hb⟩
  · have h0 := hr
    unfold rightT at h0
    simp only [Bool.and_eq_true, Bool.not_eq_true', decide_eq_true_iff] at h0
    obtain ⟨⟨hne, h64⟩, hlo⟩ := h0
    cases t with
    | nil => simp at hne
    | cons c t =>
      have hall : ∀ x ∈ c :: t, isLow x = true := by unfold lettersL at hlo; exact List.filter_eq_self.1 hlo
      obtain ⟨R, hR⟩ : ∃ R, sndGo (codeB c) [c] t = R := ⟨_, rfl⟩
      have hs : soundT (c :: t) = padL R := by unfold soundT; rw [hr, ← hR]; rfl
      rw [hs]
      have HR := Lib.hid hr; have HAll := Lib.hid hall; have HGo := Lib.hid hR
      clear hr hs hne hlo hall hR
      have hext := extract_take (c :: t) 1
      have htk1 : (c :: t).take 1 = [c] := rfl
      rw [htk1] at hext
      have hlen0 : (0 : Int) < ((c :: t).length : Int) := by simp
      have hT : (c :: t).length ≤ 64 := h64
      obtain ⟨hdc, hok0⟩ := dig_conv (HAll.out c (by simp))
      have HDc := Lib.hid hdc; have HOk := Lib.hid hok0
      clear hdc hok0 htk1
      go_enter Tryz.func126, Tryz.ntmps126
      go_wp2_with fail
      refine (rright6_any (c :: t) _ hl).mono ?_
      rw [HR.out]
      rintro e w1 ⟨rfl, hb⟩
      have HB := Lib.hid hb
      clear hb
      go_wp2_with fail
      refine (rdigit_any c _).mono ?_
      rw [HDc.out]
      rintro e w2 ⟨rfl, hb⟩
      have HB2 := Lib.hid (HB.out.trans (hb.mono HB.out.size))
      clear hb
      obtain ⟨u0, hu0⟩ : ∃ u, convD (codeB c) = u := ⟨_, rfl⟩
      rw [hu0]
      have HU0 := Lib.hid hu0
      clear hu0
      unfold byteV
      go_wp2_with fail
      go_loopw [3, 4, 5] (fun v la i wr => ∃ (k : Nat) (l : UInt8) (out : List UInt8), i = .int .i64 k ∧ 1 ≤ k ∧ k ≤ t.length + 1 ∧ v = strV out ∧ la = .int .u8 ((convD l).toNat : Int) ∧ Hid (okD l) ∧ out.length ≤ 4 ∧ Below w2.heap.size w2 wr ∧ Hid (sndGo l out ((c :: t).drop k) = R)) (fun _ _ i _ => t.length + 1 - (intOf i).toNat)
      case atStart => exact ⟨1, codeB c, [c], rfl, Nat.le_refl _, by simp, rfl, by rw [HU0.out], HOk, by simp, Below.refl _ _, HGo⟩
      case round =>
        obtain ⟨k, l, out, rfl, hk1, hk2, rfl, rfl, HOl, hol, hbw, HT⟩ := hrel
        have HBw := Lib.hid hbw
        obtain ⟨u, hu⟩ : ∃ u, convD l = u := ⟨_, rfl⟩
        rw [hu]
        have HU := Lib.hid hu
        clear hbw hu
        by_cases h1 : k < t.length + 1
        · have hq1 : decide ((k : Int) < (t.length : Int) + 1) = true := by simp only [decide_eq_true_eq]; omega
          have hki : (k : Int) < ((c :: t).length : Int) := by simp; omega
          have h1c : k < (c :: t).length := by simp; omega
          by_cases h2 : out.length < 4
          · have hq2 : decide ((out.length : Int) < 4) = true := by simp only [decide_eq_true_eq]; omega
            obtain ⟨x, hx⟩ : ∃ x, (c :: t)[k]'h1c = x := ⟨_, rfl⟩
            have hgx : ∀ h : k < (⟨(c :: t).toArray⟩ : ByteArray).size, (⟨(c :: t).toArray⟩ : ByteArray)[k]'h = x := fun h => hx
            have hxl : isLow x = true := by rw [← hx]; exact HAll.out _ (List.getElem_mem h1c)
            obtain ⟨⟨out', l'⟩, hs⟩ : ∃ p, sndStep l out x = p := ⟨_, rfl⟩
            obtain ⟨d, hd⟩ : ∃ d, digR x = d := ⟨_, rfl⟩
            have ht := HT.out
            rw [List.drop_eq_getElem_cons h1c, hx] at ht
            unfold sndGo at ht
            rw [if_pos h2, hs] at ht
            obtain ⟨hst, hok'⟩ := step_conv (out := out) hxl HOl.out
            rw [hs, hd, HU.out] at hst
            rw [hs] at hok'
            dsimp only at ht hst hok'
            have HT2 := Lib.hid ht; have HD := Lib.hid hd; have HSt := Lib.hid hst; have HOk' := Lib.hid hok'
            clear ht hd hst hok' hs hx HT hxl
            go_wp2_with fail
            refine (rdigit_any x _).mono ?_
            rw [HD.out]
            rintro e wq ⟨rfl, hb⟩
            have HBq := Lib.hid (HBw.out.trans (hb.mono HBw.out.size))
            clear hb
            unfold byteV
            by_cases e1 : d = 1
            · have d1 : ((d.toNat : Int) == 1) = true := by rw [e1]; rfl
              have hst := HSt.out
              unfold refStep at hst
              rw [if_pos e1] at hst
              obtain ⟨ea, eb⟩ := Prod.mk.inj hst
              subst ea
              have HE := Lib.hid eb
              clear hst eb e1 HSt
              go_wp2_with fail
              go_roundw
              case rel => exact ⟨k + 1, l', out, by go_num, by omega, by omega, rfl, by rw [HE.out], HOk', hol, HBq.out, HT2⟩
              case measure => simp [intOf]; omega
            · have d1 : ((d.toNat : Int) == 1) = false := by
                simp only [beq_eq_false_iff_ne, ne_eq]; intro h; exact e1 (UInt8.toNat_inj.1 (by show d.toNat = 1; omega))
              have hst := HSt.out
              unfold refStep at hst
              rw [if_neg e1] at hst
              by_cases e2 : 1 < d.toNat ∧ d ≠ u
              · have d2 : decide ((1 : Int) < (d.toNat : Int)) = true := by simp only [decide_eq_true_eq]; omega
                have d2n : decide (1 < d.toNat) = true := by simp only [decide_eq_true_eq]; omega
                have d3 : ((d.toNat : Int) != (u.toNat : Int)) = true := by
                  simp only [bne_iff_ne, ne_eq]; intro h; exact e2.2 (UInt8.toNat_inj.1 (by omega))
                rw [if_pos e2] at hst
                obtain ⟨ea, eb⟩ := Prod.mk.inj hst
                have HE := Lib.hid eb; have HA := Lib.hid ea
                have hcv := conv_one d wq
                have n1 : ¬ 9223372036854775807 < out.length + 1 := by omega
                clear hst eb ea e1 e2 HSt
                go_wp2_with fail
                go_roundw
                case rel => exact ⟨k + 1, l', out', by go_num, by omega, by omega, by rw [← HA.out], by rw [← HE.out], HOk', by rw [← HA.out]; simp; omega, HBq.out.alloc HBq.out.size _, HT2⟩
                case measure => simp [intOf]; omega
              · rw [if_neg e2] at hst
                obtain ⟨ea, eb⟩ := Prod.mk.inj hst
                subst ea
                have HE := Lib.hid eb
                clear hst eb HSt
                by_cases e3 : 1 < d.toNat
                · have d2 : decide ((1 : Int) < (d.toNat : Int)) = true := by simp only [decide_eq_true_eq]; omega
                  have d2n : decide (1 < d.toNat) = true := by simp only [decide_eq_true_eq]; omega
                  have e4 : d = u := by
                    rcases Decidable.em (d = u) with h | h
                    · exact h
                    · exact absurd ⟨e3, h⟩ e2
                  have d3 : ((d.toNat : Int) != (u.toNat : Int)) = false := by rw [e4]; simp
                  clear e1 e2 e3 e4
                  go_wp2_with fail
                  go_roundw
                  case rel => exact ⟨k + 1, l', out, by go_num, by omega, by omega, rfl, by rw [← HE.out], HOk', hol, HBq.out, HT2⟩
                  case measure => simp [intOf]; omega
                · have d2 : decide ((1 : Int) < (d.toNat : Int)) = false := by simp only [decide_eq_false_iff_not]; omega
                  have d2n : decide (1 < d.toNat) = false := by simp only [decide_eq_false_iff_not]; omega
                  clear e1 e2 e3
                  go_wp2_with fail
                  go_roundw
                  case rel => exact ⟨k + 1, l', out, by go_num, by omega, by omega, rfl, by rw [← HE.out], HOk', hol, HBq.out, HT2⟩
                  case measure => simp [intOf]; omega
          · have hq2 : decide ((out.length : Int) < 4) = false := by simp only [decide_eq_false_iff_not]; omega
            have ht := HT.out
            rw [sndGo_end _ _ _ h2] at ht
            subst ht
            clear HT
            have HBx := Lib.hid (HB2.out.trans (HBw.out.mono HB2.out.size))
            go_wp2_with fail
            go_loopw [3] (fun v wx => ∃ o : List UInt8, v = strV o ∧ o.length ≤ 4 ∧ Below w.heap.size w wx ∧ Hid (padL o = padL out)) (fun v _ => 4 - lenStr v)
            case atStart => exact ⟨out, rfl, hol, HBx.out, Lib.hid rfl⟩
            case round =>
              obtain ⟨o, rfl, hol2, hbx, HP⟩ := hrel
              have HBy := Lib.hid hbx
              clear hbx
              by_cases h3 : o.length < 4
              · have hq3 : decide ((o.length : Int) < 4) = true := by simp only [decide_eq_true_eq]; omega
                have n1 : ¬ 9223372036854775807 < o.length + 1 := by omega
                have HP2 := Lib.hid (show padL (o ++ [48]) = padL out by rw [padL_more o h3]; exact HP.out)
                clear HP
                go_wp2_with fail
                go_roundw
                case rel => exact ⟨o ++ [48], rfl, by simp; omega, HBy.out, HP2⟩
                case measure => simp [lenStr, ByteArray.size]; omega
              · have hq3 : decide ((o.length : Int) < 4) = false := by simp only [decide_eq_false_iff_not]; omega
                have hp := HP.out
                rw [padL_end o h3] at hp
                have HF := Lib.hid (show Ending.returned (strV o) = .returned (strV (padL out)) by rw [hp])
                clear hp HP
                go_wp2_with fail
                go_ret
                exact ⟨HF.out, HBy.out⟩
        · have hq1 : decide ((k : Int) < (t.length : Int) + 1) = false := by simp only [decide_eq_false_iff_not]; omega
          have ht := HT.out
          rw [List.drop_eq_nil_of_le (by simp; omega)] at ht
          have ht2 : out = R := by unfold sndGo at ht; exact ht
          subst ht2
          clear ht HT
          have HBx := Lib.hid (HB2.out.trans (HBw.out.mono HB2.out.size))
          go_wp2_with fail
          go_loopw [3] (fun v wx => ∃ o : List UInt8, v = strV o ∧ o.length ≤ 4 ∧ Below w.heap.size w wx ∧ Hid (padL o = padL out)) (fun v _ => 4 - lenStr v)
          case atStart => exact ⟨out, rfl, hol, HBx.out, Lib.hid rfl⟩
          case round =>
            obtain ⟨o, rfl, hol2, hbx, HP⟩ := hrel
            have HBy := Lib.hid hbx
            clear hbx
            by_cases h3 : o.length < 4
            · have hq3 : decide ((o.length : Int) < 4) = true := by simp only [decide_eq_true_eq]; omega
              have n1 : ¬ 9223372036854775807 < o.length + 1 := by omega
              have HP2 := Lib.hid (show padL (o ++ [48]) = padL out by rw [padL_more o h3]; exact HP.out)
              clear HP
              go_wp2_with fail
              go_roundw
              case rel => exact ⟨o ++ [48], rfl, by simp; omega, HBy.out, HP2⟩
              case measure => simp [lenStr, ByteArray.size]; omega
            · have hq3 : decide ((o.length : Int) < 4) = false := by simp only [decide_eq_false_iff_not]; omega
              have hp := HP.out
              rw [padL_end o h3] at hp
              have HF := Lib.hid (show Ending.returned (strV o) = .returned (strV (padL out)) by rw [hp])
              clear hp HP
              go_wp2_with fail
              go_ret
              exact ⟨HF.out, HBy.out⟩
set_option maxHeartbeats 1000000 in
theorem rsndkey_any (l : List UInt8) (w : World) (hl : l.length ≤ 1000) : Calls Tryz.prog 68 #[strV l] w fun e w' => e = .returned (strV (soundL l)) ∧ Below w.heap.size w w' := by
  have hc : (toks l).length ≤ 1000000 := by have := (toksA_len l []).2.1; unfold toks; omega
  have hts : ∀ t ∈ toks l, t.length ≤ 1000000 := fun t ht => by have := toks_le l [] t ht; simp at this; omega
  obtain ⟨T, hT⟩ : ∃ T, toks l = T := ⟨_, rfl⟩
  have htk := fun w => rtokens_any ⟨l.toArray⟩ w (by simp [ByteArray.size]; omega)
  obtain ⟨res, hres⟩ : ∃ res, soundL l = res := ⟨_, rfl⟩
  have hr2 : sndFirst T = res := by rw [← hT]; exact hres
  have htk' : ∀ w, Calls Tryz.prog 97 #[strV l] w fun e w' => ∃ v, e = .returned v ∧ OwnAt w v T w' := by rw [← hT]; exact htk
  rw [hT] at hc hts
  rw [hres]
  have HTk := Lib.hid htk'
  clear hT htk htk' hres
  go_enter Tryz.func68, Tryz.ntmps68
  go_wp2_with fail
  refine (HTk.out _).mono ?_
  rintro e w1 ⟨v, rfl, ho⟩
  obtain ⟨av, cv, rfl⟩ := own_slice ho.1
  have HV := Lib.hid (Vec.owns (k := 1) (enc := encS) (S := Any1) (fun _ => rfl) ho.1 (fun _ _ _ => trivial))
  have HB := Lib.hid ho.2
  clear ho
  cases T with
  | nil =>
    have hr3 : [] = res := hr2
    subst hr3
    clear hr2
    go_wp2_with fail
    go_ret
    exact ⟨rfl, HB.out⟩
  | cons t T =>
    have HR := Lib.hid (show soundT t = res from hr2)
    have htl := hts t (by simp)
    have d0 : (((t :: T).length : Int) == 0) = false := by simp; omega
    obtain ⟨b, off, rfl, lb, hc0⟩ := HV.out.get 0 (by simp)
    have c0 := hc0 0 _ rfl
    rw [Nat.zero_mul, Nat.add_zero] at c0
    have c0 : w1.cell? ⟨b, off, none⟩ = some (strV t) := c0
    have hl0 : (0 : Int) < ((t :: T).length : Int) := by simp
    clear hr2 hts hc0
    go_wp2_with fail
    refine (rsound_any t _ htl).mono ?_
    rw [HR.out]
    rintro e w2 ⟨rfl, hb⟩
    go_wp2_with fail
    go_ret
    exact ⟨rfl, HB.out.trans (hb.mono HB.out.size)⟩
set_option maxHeartbeats 1000000 in
theorem ranum_any (l : List UInt8) (w : World) (hl : l.length ≤ 1000) : Calls Tryz.prog 69 #[strV l] w fun e w' => e = .returned (strV (numL l)) ∧ Below w.heap.size w w' := by
  have hc : (toks l).length ≤ 1000000 := by have := (toksA_len l []).2.1; unfold toks; omega
  obtain ⟨T, hT⟩ : ∃ T, toks l = T := ⟨_, rfl⟩
  have hnl : numL l = (T.filter numB).headD [] := by rw [← hT]; rfl
  have htk := fun w => rtokens_any ⟨l.toArray⟩ w (by simp [ByteArray.size]; omega)
  have htk' : ∀ w, Calls Tryz.prog 97 #[strV l] w fun e w' => ∃ v, e = .returned v ∧ OwnAt w v T w' := by rw [← hT]; exact htk
  rw [hT] at hc
  rw [hnl]
  obtain ⟨res, hres⟩ : ∃ res, (T.filter numB).headD [] = res := ⟨_, rfl⟩
  rw [hres]
  have HFin := Lib.hid (show ∀ y, (T.filter numB).headD [] = y → Ending.returned (strV y) = .returned (strV res) from fun y hy => by rw [← hy, hres])
  clear hres
  have HTk := Lib.hid htk'
  clear hnl hT htk htk'
  go_enter Tryz.func69, Tryz.ntmps69
  go_wp2_with fail
  refine (HTk.out _).mono ?_
  rintro e w1 ⟨v, rfl, ho⟩
  obtain ⟨av, cv, rfl⟩ := own_slice ho.1
  have HV := Lib.hid (Vec.owns (k := 1) (enc := encS) (S := Any1) (fun _ => rfl) ho.1 (fun _ _ _ => trivial))
  have HB := Lib.hid ho.2
  clear ho
  go_wp2_with fail
  refine (rparts_any Any1 _ T _ HV.out hc).mono ?_
  rintro e w2 ⟨u, v, rfl, h2⟩
  obtain ⟨au, cu, rfl⟩ := own_slice h2.1
  obtain ⟨av, cv, rfl⟩ := own_slice h2.2.1
  have HU1 := Lib.hid (Vec.owns (k := 1) (enc := encS) (S := Any1) (fun _ => rfl) h2.1 (fun _ _ _ => trivial))
  have HB2 := Lib.hid (HB.out.trans (h2.2.2.2.mono HB.out.size))
  clear h2
  obtain ⟨F, hF⟩ : ∃ F, T.filter numB = F := ⟨_, rfl⟩
  rw [hF] at HU1 HFin ⊢
  clear hF
  cases F with
  | nil =>
    go_wp2_with fail
    go_ret
    exact ⟨HFin.out [] rfl, HB2.out⟩
  | cons x F =>
    have d0 : (((x :: F).length : Int) == 0) = false := by simp; omega
    obtain ⟨b, off, rfl, lb, hc0⟩ := HU1.out.get 0 (by simp)
    have c0 := hc0 0 _ rfl
    rw [Nat.zero_mul, Nat.add_zero] at c0
    have c0 : w2.cell? ⟨b, off, none⟩ = some (strV x) := c0
    have hl0 : (0 : Int) < ((x :: F).length : Int) := by simp
    go_wp2_with fail
    go_ret
    exact ⟨HFin.out x rfl, HB2.out⟩
end
section
set_option maxRecDepth 100000
open Go.RowKit Cal
attribute [local go_sem] toList_mk mk_size
structure RcAt (b : Nat) (vf vt vn vs id ver sv : Value) (w : World) : Prop where
  s : w.heap[b]? = some (.cells #[vf, vt, vn, vs] 43 (0, 0))
  r : w.heap[b + 1]? = some (.cells #[id, ver, sv] 29 (0, 0))
theorem RcAt.below {b : Nat} {vf vt vn vs id ver sv : Value} {w w' : World} (h : RcAt b vf vt vn vs id ver sv w) (hb : Below w.heap.size w w') : RcAt b vf vt vn vs id ver sv w' :=
  ⟨blk_below hb (lt_of_blk h.s) h.s, blk_below hb (lt_of_blk h.r) h.r⟩
theorem checkI_no {s : SchemaL} {r : RecL} (h : ¬ (1 ≤ r.id ∧ r.id ≤ 1048576 ∧ 1 ≤ r.ver ∧ r.ver ≤ 1048576 ∧ r.vals.length = s.fields.length)) : checkI s r = 7 := by
  unfold checkI numberedB
  rw [if_neg]
  simp only [Bool.and_eq_true, decide_eq_true_eq, beq_iff_eq]
  intro hh
  exact h ⟨hh.1.1.1.1.1, hh.1.1.1.1.2, hh.1.1.1.2, hh.1.1.2, hh.1.2⟩
theorem checkI_norm {s : SchemaL} {r : RecL} (h : 1 ≤ r.id ∧ r.id ≤ 1048576 ∧ 1 ≤ r.ver ∧ r.ver ≤ 1048576 ∧ r.vals.length = s.fields.length) : checkI s r = if normA s 0 r.vals = true then 0 else 7 := by
  unfold checkI numberedB
  simp [h]
theorem normA_no {s : SchemaL} {L : List (List UInt8)} {k : Nat} (hk : k < L.length) (h : normalB s k L[k] = false) : normA s 0 L = false := by
  cases hh : normA s 0 L with
  | false => rfl
  | true =>
    have := normA_get s L 0 hh k hk
    rw [Nat.zero_add, show L.getD k [] = L[k] by simp [List.getD, hk], h] at this
    cases this
set_option maxHeartbeats 8000000 in
theorem rrcheck_any (S T : Nat → Prop) (vf vt vn vs : Value) (s : SchemaL) (r : RecL) (sv : Value) (w : World) (h : SchemaAt w S vf vt vn vs s) (hv : Vec w T 1 encS sv r.vals) (hs : ∀ x ∈ r.vals, x.length ≤ 1000000) (hn : r.vals.length ≤ 1000000) :
    Calls Tryz.prog 65 #[.agg #[vf, vt, vn, vs], .agg #[.int .i64 r.id, .int .i64 r.ver, sv]] w fun e w' => e = .returned (.int .i64 (checkN s r)) ∧ Below w.heap.size w w' := by
  obtain ⟨c, hc⟩ : ∃ c, checkN s r = c := ⟨_, rfl⟩
  obtain ⟨d, hd⟩ : ∃ d, checkS s = d := ⟨_, rfl⟩
  have hval := hc
  unfold checkN at hval
  rw [hd] at hval
  rw [hc]
  obtain ⟨af, cf, rfl⟩ := h.1.slice
  obtain ⟨a, cap, rfl⟩ := hv.slice
  obtain ⟨id, ver, vals⟩ := r
  dsimp only at hv hs hn ⊢
  have HV := Lib.hid hv.any; have HS := Lib.hid h.any; have HVal := Lib.hid hval; have HD := Lib.hid hd; have HSh := Lib.hid hs
  clear hv h hval hc hd hs
  go_enter Tryz.func65, Tryz.ntmps65
  go_wp2_with fail
  refine wp_calls_world (fun W hW => ?_)
  have hb0 : Below w.heap.size w W := by rw [hW]; exact ((Below.refl w.heap.size w).alloc (Nat.le_refl _) _).alloc (by simp) _
  have k0 : RcAt w.heap.size (.slice af s.fields.length cf) vt vn vs (.int .i64 id) (.int .i64 ver) (.slice a vals.length cap) W := by rw [hW]; exact ⟨blk_old (blk_new rfl), blk_new (by simp)⟩
  clear hW
  refine (rscheck_any Any1 _ _ _ _ s _ (HS.out.below hb0)).mono ?_
  rw [HD.out]
  rintro e w1 ⟨rfl, hb⟩
  have K1 := Lib.hid (k0.below hb); have HB1 := Lib.hid (hb0.trans (hb.mono hb0.size))
  clear hb hb0 k0
  obtain ⟨s0, s1, s2, s3⟩ := cellsS K1.out.s; obtain ⟨r0, r1, r2⟩ := cells3 K1.out.r
  have ls := lt_of_blk K1.out.s; have lr := lt_of_blk K1.out.r
  by_cases h0 : d = 0
  · subst h0
    have HV2 := HVal.out
    rw [if_pos rfl] at HV2
    have HI := Lib.hid HV2
    have dz : ((0 : Int) != 0) = false := rfl
    clear HV2 HVal
    by_cases hin : 1 ≤ id ∧ id ≤ 1048576 ∧ 1 ≤ ver ∧ ver ≤ 1048576 ∧ vals.length = s.fields.length
    · have hck := checkI_norm (r := ⟨id, ver, vals⟩) hin
      rw [HI.out] at hck
      have HCk := Lib.hid hck
      obtain ⟨i1, i2, i3, i4, i5⟩ := hin
      have e1 : decide (id < (1 : Int)) = false := by simp; omega
      have e2 : decide ((1048576 : Int) < id) = false := by simp; omega
      have e3 : decide (ver < (1 : Int)) = false := by simp; omega
      have e4 : decide ((1048576 : Int) < ver) = false := by simp; omega
      have e5 : ((vals.length : Int) != (s.fields.length : Int)) = false := by rw [i5]; simp
      clear i1 i2 i3 i4 i5 hck
      go_wp2_with fail
      clear s0 s1 s2 s3 r0 r1 r2 e1 e2 e3 e4 e5
      go_loopw [6] (fun t wr => ∃ k : Nat, k ≤ vals.length ∧ t = .int .i64 k ∧ Hid (∀ j (hj : j < k) (hl : j < vals.length), normalB s j vals[j] = true) ∧ Below w1.heap.size w1 wr) (fun t _ => vals.length - (intOf t).toNat)
      case atStart => exact ⟨0, by omega, rfl, Lib.hid fun j hj => by omega, Below.refl _ _⟩
      case round =>
        obtain ⟨k, hk, rfl, HN, hbw⟩ := hrel
        have Kw := Lib.hid (K1.out.below hbw); have HBw := Lib.hid (HB1.out.trans (hbw.mono HB1.out.size)); have Hbw := Lib.hid hbw
        clear hbw
        obtain ⟨s0, s1, s2, s3⟩ := cellsS Kw.out.s; obtain ⟨r0, r1, r2⟩ := cells3 Kw.out.r
        have ls := lt_of_blk Kw.out.s; have lr := lt_of_blk Kw.out.r
        by_cases hlt : k < vals.length
        · have hq : decide ((k : Int) < vals.length) = true := by simp; omega
          have hki : (k : Int) < (vals.length : Int) := by omega
          obtain ⟨u, hu⟩ : ∃ u, vals[k] = u := ⟨_, rfl⟩
          have hul : u.length ≤ 1000000 := HSh.out u (by rw [← hu]; exact List.getElem_mem _)
          obtain ⟨b, off, rfl, hb, hcc⟩ := (HV.out.below HBw.out).get k hlt
          have d0 := hcc 0 _ rfl
          rw [Nat.mul_one, Nat.add_zero, hu] at d0
          have lb : b < wr.heap.size := hb
          have HU := Lib.hid hu
          obtain ⟨nb, hnb⟩ : ∃ nb, normalB s k u = nb := ⟨_, rfl⟩
          have HNb := Lib.hid hnb
          have bD : Below wr.heap.size wr wr.drew := (Below.refl _ _).drew
          clear hcc hu hnb hb
          go_wp2_with fail
          refine wp_region_noPanic ?_
          refine wp_region_held_drew (S := (fun w' => w'.cell? ⟨w.heap.size, 0, none⟩ = some (.slice af s.fields.length cf) ∧ w'.cell? ⟨w.heap.size, 1, none⟩ = some vt ∧ w'.cell? ⟨w.heap.size, 2, none⟩ = some vn ∧ w'.cell? ⟨w.heap.size, 3, none⟩ = some vs ∧ w'.cell? ⟨w.heap.size + 1, 2, none⟩ = some (.slice (some ⟨b, off, none⟩) vals.length cap) ∧ w'.cell? ⟨b, off + k, none⟩ = some (strV u))) (by kernel_rfl) (⟨s0, s1, s2, s3, r2, d0⟩) (fun hHeld => ?_)
          refine tH 0 (h := ?_)
          refine tH 1 (h := ?_)
          refine tH 2 (h := ?_)
          refine tH 3 (h := ?_)
          refine tH 4 (h := ?_)
          refine tH 5 (h := ?_)
          refine tH 6 (h := ?_)
          refine wpAnyH_ready (rs := [7]) (by kernel_rfl) (by simp) ?_
          refine AllReadyH.cons rfl (fun K hK => ?_) AllReadyH.nil
          go_simp
          refine (rsnormal_any Any1 _ vt vn vs s k ⟨u.toArray⟩ _ ((HS.out.below HBw.out).below bD) (by rw [mk_size]; omega)).mono ?_; rw [show (⟨u.toArray⟩ : ByteArray).data.toList = u by simp, HNb.out]; rintro e w2 ⟨rfl, hb2⟩; have b2 := bD.trans (hb2.mono bD.size); clear hb2
          refine hK.out _ _ (⟨(b2.cell (p := ⟨w.heap.size, 0, none⟩) ls).trans s0, (b2.cell (p := ⟨w.heap.size, 1, none⟩) ls).trans s1, (b2.cell (p := ⟨w.heap.size, 2, none⟩) ls).trans s2, (b2.cell (p := ⟨w.heap.size, 3, none⟩) ls).trans s3, (b2.cell (p := ⟨w.heap.size + 1, 2, none⟩) lr).trans r2, (b2.cell (p := ⟨b, off + k, none⟩) lb).trans d0⟩) (fun hHeld => ?_)
          clear hK K
          try simp only [List.getElem_toArray, List.getElem_cons_zero, List.getElem_cons_succ, Act.put, List.setIfInBounds_toArray, List.set_cons_zero, List.set_cons_succ]
          refine tH 8 (h := ?_)
          refine wpAnyH_done (by kernel_rfl) ?_ _
          refine NoPanic.normal ?_
          have HB2 := Lib.hid (Hbw.out.trans (b2.mono Hbw.out.size))
          have HBf := Lib.hid (HBw.out.trans (b2.mono HBw.out.size))
          clear hHeld s0 s1 s2 s3 r0 r1 r2 d0 b2
          cases nb with
          | true =>
            go_wp2_with fail
            go_roundw
            case rel =>
              refine ⟨k + 1, by omega, by go_num, Lib.hid fun j hj hl => ?_, HB2.out⟩
              by_cases hjk : j = k
              · subst hjk; rw [HU.out]; exact HNb.out
              · exact HN.out j (by omega) hl
            case measure => simp [intOf]; omega
          | false =>
            have hc7 : c = 7 := by rw [HCk.out, normA_no hlt (by rw [HU.out]; exact HNb.out)]; rfl
            subst hc7
            go_wp2_with fail
            go_ret
            exact ⟨rfl, HBf.out⟩
        · have hq : decide ((k : Int) < vals.length) = false := by simp; omega
          obtain rfl : k = vals.length := by omega
          have hc0 : c = 0 := by
            rw [HCk.out, normA_of s vals 0 fun j hj => by rw [Nat.zero_add, show vals.getD j [] = vals[j] by simp [List.getD, hj]]; exact HN.out j hj hj]; rfl
          subst hc0
          go_wp2_with fail
          go_ret
          exact ⟨rfl, HBw.out⟩
    · have hc7 : c = 7 := by rw [← HI.out]; exact checkI_no hin
      subst hc7
      clear HI
      by_cases i1 : id < 1
      · have e1 : decide (id < (1 : Int)) = true := by simpa using i1
        go_wp2_with fail
        go_ret
        exact ⟨rfl, HB1.out⟩
      have e1 : decide (id < (1 : Int)) = false := by simpa using i1
      by_cases i2 : 1048576 < id
      · have e2 : decide ((1048576 : Int) < id) = true := by simpa using i2
        go_wp2_with fail
        go_ret
        exact ⟨rfl, HB1.out⟩
      have e2 : decide ((1048576 : Int) < id) = false := by simpa using i2
      by_cases i3 : ver < 1
      · have e3 : decide (ver < (1 : Int)) = true := by simpa using i3
        go_wp2_with fail
        go_ret
        exact ⟨rfl, HB1.out⟩
      have e3 : decide (ver < (1 : Int)) = false := by simpa using i3
      by_cases i4 : 1048576 < ver
      · have e4 : decide ((1048576 : Int) < ver) = true := by simpa using i4
        go_wp2_with fail
        go_ret
        exact ⟨rfl, HB1.out⟩
      have e4 : decide ((1048576 : Int) < ver) = false := by simpa using i4
      have e5 : ((vals.length : Int) != (s.fields.length : Int)) = true := by simp; omega
      clear i1 i2 i3 i4 hin
      go_wp2_with fail
      go_ret
      exact ⟨rfl, HB1.out⟩
  · have h1 : d = c := by have := HVal.out; rwa [if_neg h0] at this
    subst h1
    have hne : (d != 0) = true := by simpa using h0
    clear h0
    go_wp2_with fail
    go_ret
    exact ⟨rfl, HB1.out⟩
end
section
set_option maxRecDepth 100000
open Go.RowKit Cal
attribute [local go_sem] toList_mk mk_size
set_option maxHeartbeats 8000000 in
theorem rrall_any (S T : Nat → Prop) (vf vt vn vs rv : Value) (s : SchemaL) (R : List RecL) (w : World) (h : SchemaAt w S vf vt vn vs s) (hr : RecsVec w T rv R) (hl : ∀ r ∈ R, ∀ x ∈ r.vals, x.length ≤ 1000000) (hn : ∀ r ∈ R, r.vals.length ≤ 1000000) (hR : R.length ≤ 1000000) :
    Calls Tryz.prog 57 #[.agg #[vf, vt, vn, vs], rv] w fun e w' => e = .returned (.int .i64 (allN s R)) ∧ Below w.heap.size w w' := by
  obtain ⟨ar, cr, rfl⟩ := hr.slice
  have HS := Lib.hid h; have HR := Lib.hid hr.any; have HL := Lib.hid hl; have HN := Lib.hid hn
  obtain ⟨E, hE⟩ : ∃ E, allN s R = E := ⟨_, rfl⟩
  rw [hE]
  have HE := Lib.hid hE
  clear h hr hl hn hE
  go_enter Tryz.func57, Tryz.ntmps57
  go_wp2_with fail
  refine wp_calls_world (fun W hW => ?_)
  have hb0 : Below w.heap.size w W := by rw [hW]; exact (Below.refl w.heap.size w).alloc (Nat.le_refl _) _
  have hs0 : W.heap[w.heap.size]? = some (.cells #[vf, vt, vn, vs] 43 (0, 0)) := by rw [hW]; exact blk_new rfl
  clear hW
  refine (rscheck_any S _ _ _ _ s W (HS.out.below hb0)).mono ?_
  rintro e w1 ⟨rfl, hb⟩
  have hs1 := blk_below hb (lt_of_blk hs0) hs0
  have HB1 := Lib.hid (hb0.trans (hb.mono hb0.size)); have HS1 := Lib.hid hs1
  clear hb hb0 hs0 hs1
  obtain ⟨c, hc⟩ : ∃ c, checkS s = c := ⟨_, rfl⟩
  rw [hc]
  by_cases hc0 : c = 0
  · subst hc0
    have dz : ((0 : Int) != 0) = false := rfl
    have HC := Lib.hid hc
    by_cases h64 : R.length ≤ 64
    · have d64 : decide ((64 : Int) < (R.length : Int)) = false := by simp; omega
      have HE2 := Lib.hid (show allA s none R = E by rw [← HE.out]; unfold allN; rw [if_pos hc, if_pos h64])
      clear hc HE
      go_wp2_with fail
      go_loopw [6] (fun t wr => ∃ j : Nat, t = .int .i64 j ∧ j ≤ R.length ∧ Hid (allA s (prevR R j) (R.drop j) = E) ∧ Below w1.heap.size w1 wr) (fun t _ => R.length - (intOf t).toNat)
      case atStart => exact ⟨0, rfl, by omega, HE2, Below.refl _ _⟩
      case round =>
        obtain ⟨j, rfl, hj, HT, hbw⟩ := hrel
        have HBW := Lib.hid hbw
        by_cases hlt : j < R.length
        · have hq : decide ((j : Int) < (R.length : Int)) = true := by simp; omega
          have hji : (j : Int) < (R.length : Int) := by omega
          have hbw0 := HB1.out.trans (hbw.mono HB1.out.size)
          obtain ⟨b, off, id, ver, aa, nn, cc, vals, rfl, lb, c0, c1, c2, hRj, hvv⟩ := (HR.out.below hbw0).at j hlt
          obtain ⟨s0, s1, s2, s3⟩ := cellsS (blk_below hbw (lt_of_blk HS1.out) HS1.out)
          have lsr : w.heap.size < wr.heap.size := by have := lt_of_blk HS1.out; have := hbw.size; omega
          have hT := HT.out
          rw [List.drop_eq_getElem_cons hlt, allA_cons] at hT
          have hmem : R[j] ∈ R := List.getElem_mem hlt
          have HLv := Lib.hid (HL.out _ hmem); have HNv := HN.out _ hmem
          have HP := Lib.hid (show j ≠ 0 → ∃ pid : Int, prevR R j = some pid ∧ wr.cell? ⟨b, off + (j - 1) * 3, none⟩ = some (.int .i64 pid) from fun h0 => by
            obtain ⟨b', off', id', ver', aa', nn', cc', vals', he, _, d0, _, _, hR', _⟩ := (HR.out.below hbw0).at (j - 1) (by omega)
            cases he
            refine ⟨id', ?_, d0⟩
            unfold prevR
            rw [if_neg h0, getD_at _ _ (by omega), hR'])
          rw [hRj] at hT HLv HNv
          have HRJ := Lib.hid hRj; have HV := Lib.hid hvv; have HT2 := Lib.hid hT
          have HB0 := Lib.hid hbw0
          clear hT hmem hRj hvv HT hbw hbw0
          dsimp only at HLv HNv
          have hvl := HV.out.len.1
          subst hvl
          obtain ⟨ci, hci⟩ : ∃ ci, checkI s ⟨id, ver, vals⟩ = ci := ⟨_, rfl⟩
          have HCi := Lib.hid (show checkN s ⟨id, ver, vals⟩ = ci by unfold checkN; rw [if_pos HC.out, hci])
          have HCI := Lib.hid hci
          have bD : Below wr.heap.size wr wr.drew := (Below.refl _ _).drew
          clear hci
          go_wp2_with fail
          go_cut [7] (fun t7 wx => t7 = .int .i64 ci ∧ Below wr.heap.size wr wx)
          case first =>
            refine wp_region_noPanic ?_
            refine wp_region_held_drew (S := (fun w' => w'.cell? ⟨w.heap.size, 0, none⟩ = some vf ∧ w'.cell? ⟨w.heap.size, 1, none⟩ = some vt ∧ w'.cell? ⟨w.heap.size, 2, none⟩ = some vn ∧ w'.cell? ⟨w.heap.size, 3, none⟩ = some vs ∧ w'.cell? ⟨b, off + j * 3, none⟩ = some (.int .i64 id) ∧ w'.cell? ⟨b, off + j * 3 + 1, none⟩ = some (.int .i64 ver) ∧ w'.cell? ⟨b, off + j * 3 + 2, none⟩ = some (.slice aa vals.length cc))) (by kernel_rfl) (⟨s0, s1, s2, s3, c0, c1, c2⟩) (fun hHeld => ?_)
            refine tH 0 (h := ?_)
            refine tH 1 (h := ?_)
            refine tH 2 (h := ?_)
            refine tH 3 (h := ?_)
            refine tH 4 (h := ?_)
            refine wpAnyH_ready (rs := [5]) (by kernel_rfl) (by simp) ?_
            refine AllReadyH.cons rfl (fun K hK => ?_) AllReadyH.nil
            go_simp
            refine (rrcheck_any S Any1 _ _ _ _ s ⟨id, ver, vals⟩ _ _ ((HS.out.below HB0.out).below bD) (HV.out.below bD) HLv.out HNv).mono ?_; rw [HCi.out]; rintro e w2 ⟨rfl, hb⟩; have b2 := bD.trans (hb.mono bD.size); clear hb
            refine hK.out _ _ (⟨(b2.cell (p := ⟨w.heap.size, 0, none⟩) lsr).trans s0, (b2.cell (p := ⟨w.heap.size, 1, none⟩) lsr).trans s1, (b2.cell (p := ⟨w.heap.size, 2, none⟩) lsr).trans s2, (b2.cell (p := ⟨w.heap.size, 3, none⟩) lsr).trans s3, (b2.cell (p := ⟨b, off + j * 3, none⟩) lb).trans c0, (b2.cell (p := ⟨b, off + j * 3 + 1, none⟩) lb).trans c1, (b2.cell (p := ⟨b, off + j * 3 + 2, none⟩) lb).trans c2⟩) (fun hHeld => ?_)
            clear hK K
            try simp only [List.getElem_toArray, List.getElem_cons_zero, List.getElem_cons_succ, Act.put, List.setIfInBounds_toArray, List.set_cons_zero, List.set_cons_succ]
            refine tH 6 (h := ?_)
            refine wpAnyH_done (by kernel_rfl) ?_ _
            refine NoPanic.normal ?_
            go_wp2_with fail
            go_meet
            exact ⟨rfl, b2⟩
          case rest =>
            obtain ⟨w2, hw2⟩ : ∃ u, u = wc := ⟨_, rfl⟩
            subst hw2
            obtain ⟨rfl, hbr⟩ := hcut
            have HB2 := Lib.hid (HBW.out.trans (hbr.mono HBW.out.size))
            have HBR := Lib.hid hbr
            have r0 := (hbr.cell (p := ⟨b, off + j * 3, none⟩) lb).trans c0
            clear hbr s0 s1 s2 s3 c0 c1 c2 bD
            by_cases hci0 : ci = 0
            · subst hci0
              have hT3 := HT2.out
              rw [HCI.out, if_pos rfl] at hT3
              have HT3 := Lib.hid hT3
              clear hT3 HT2
              by_cases hj0 : j = 0
              · have dj : decide (0 < j) = false := by simp; omega
                have HT4 := Lib.hid (show allA s (prevR R (j + 1)) (R.drop (j + 1)) = E by
                  have := HT3.out
                  rw [show prevR R j = none by unfold prevR; rw [if_pos hj0]] at this
                  rw [← this]
                  unfold prevR
                  rw [if_neg (by omega), show j + 1 - 1 = j by omega, getD_at _ _ hlt, HRJ.out]; rfl)
                clear HT3 HP
                go_wp2_with fail
                refine wp_region_noPanic ?_
                refine wp_region_held_drew (S := (fun w' => True)) (by kernel_rfl) (trivial) (fun hHeld => ?_)
                refine tH 0 (h := ?_)
                refine tH 1 (h := ?_)
                refine tH 2 (h := ?_)
                refine sH 3 (h := ?_)
                refine sH 4 (h := ?_)
                refine sH 5 (h := ?_)
                refine sH 6 (h := ?_)
                refine sH 7 (h := ?_)
                refine sH 8 (h := ?_)
                refine sH 9 (h := ?_)
                refine sH 10 (h := ?_)
                refine sH 11 (h := ?_)
                refine sH 12 (h := ?_)
                refine sH 13 (h := ?_)
                refine sH 14 (h := ?_)
                refine tH 15 (h := ?_)
                refine wpAnyH_done (by kernel_rfl) ?_ _
                refine NoPanic.normal ?_
                go_wp2_with fail
                go_roundw
                case rel => exact ⟨j + 1, by go_num, by omega, HT4, HB2.out.drew⟩
                case measure => simp [intOf]; omega
              · have dj : decide (0 < j) = true := by simp; omega
                obtain ⟨pid, hpr, hpc⟩ := HP.out hj0
                have hpc2 := (HBR.out.cell (p := ⟨b, off + (j - 1) * 3, none⟩) lb).trans hpc
                have hj1 : (j : Int) - 1 < (R.length : Int) := by omega
                have hj2 : (1 : Int) ≤ (j : Int) := by omega
                have hj3 : ((j : Int) - 1).toNat = j - 1 := by omega
                have hwr : IntKind.i64.wrap ((j : Int) - 1) = (j : Int) - 1 := by rw [IntKind.wrap_i64]; omega
                have hT4 := HT3.out
                rw [hpr] at hT4
                clear HP hpc HT3
                by_cases hle : id ≤ pid
                · have dle : decide (id ≤ pid) = true := by simpa using hle
                  have hE12 : E = 12 := by rw [← hT4]; unfold notB; dsimp only; rw [if_pos dle]
                  subst hE12
                  clear hT4
                  go_wp2_with fail
                  refine wp_region_noPanic ?_
                  refine wp_region_held_drew (S := (fun w' => w'.cell? ⟨b, off + (j - 1) * 3, none⟩ = some (.int .i64 pid) ∧ w'.cell? ⟨b, off + j * 3, none⟩ = some (.int .i64 id))) (by kernel_rfl) (⟨hpc2, r0⟩) (fun hHeld => ?_)
                  refine tH 0 (h := ?_)
                  refine tH 1 (h := ?_)
                  refine tH 2 (h := ?_)
                  refine tH 3 (h := ?_)
                  refine tH 4 (h := ?_)
                  refine tH 5 (h := ?_)
                  refine tH 6 (h := ?_)
                  refine tH 7 (h := ?_)
                  refine tH 8 (h := ?_)
                  refine tH 9 (h := ?_)
                  refine tH 10 (h := ?_)
                  refine tH 11 (h := ?_)
                  refine tH 12 (h := ?_)
                  refine tH 13 (h := ?_)
                  refine tH 14 (h := ?_)
                  refine tH 15 (h := ?_)
                  refine wpAnyH_done (by kernel_rfl) ?_ _
                  refine NoPanic.normal ?_
                  go_wp2_with fail
                  go_ret
                  exact ⟨rfl, HB1.out.trans (HB2.out.drew.mono HB1.out.size)⟩
                · have dle : decide (id ≤ pid) = false := by simpa using hle
                  have HT5 := Lib.hid (show allA s (prevR R (j + 1)) (R.drop (j + 1)) = E by
                    rw [← hT4]
                    unfold notB; dsimp only
                    rw [if_neg (by rw [dle]; decide)]
                    unfold prevR
                    rw [if_neg (by omega), show j + 1 - 1 = j by omega, getD_at _ _ hlt, HRJ.out])
                  clear hT4
                  go_wp2_with fail
                  refine wp_region_noPanic ?_
                  refine wp_region_held_drew (S := (fun w' => w'.cell? ⟨b, off + (j - 1) * 3, none⟩ = some (.int .i64 pid) ∧ w'.cell? ⟨b, off + j * 3, none⟩ = some (.int .i64 id))) (by kernel_rfl) (⟨hpc2, r0⟩) (fun hHeld => ?_)
                  refine tH 0 (h := ?_)
                  refine tH 1 (h := ?_)
                  refine tH 2 (h := ?_)
                  refine tH 3 (h := ?_)
                  refine tH 4 (h := ?_)
                  refine tH 5 (h := ?_)
                  refine tH 6 (h := ?_)
                  refine tH 7 (h := ?_)
                  refine tH 8 (h := ?_)
                  refine tH 9 (h := ?_)
                  refine tH 10 (h := ?_)
                  refine tH 11 (h := ?_)
                  refine tH 12 (h := ?_)
                  refine tH 13 (h := ?_)
                  refine tH 14 (h := ?_)
                  refine tH 15 (h := ?_)
                  refine wpAnyH_done (by kernel_rfl) ?_ _
                  refine NoPanic.normal ?_
                  go_wp2_with fail
                  go_roundw
                  case rel => exact ⟨j + 1, by go_num, by omega, HT5, HB2.out.drew⟩
                  case measure => simp [intOf]; omega
            · have hE3 : E = ci := by rw [← HT2.out, HCI.out, if_neg hci0]
              have dne : (ci != (0 : Int)) = true := by simpa using hci0
              subst hE3
              clear HT2 HE2 HP
              go_wp2_with fail
              go_ret
              exact ⟨rfl, HB1.out.trans (HB2.out.mono HB1.out.size)⟩
        · have hq : decide ((j : Int) < (R.length : Int)) = false := by simp; omega
          obtain rfl : j = R.length := by omega
          have hE0 : E = 0 := by rw [← HT.out, List.drop_length]; rfl
          subst hE0
          go_wp2_with fail
          go_ret
          exact ⟨rfl, HB1.out.trans (hbw.mono HB1.out.size)⟩
    · have d64 : decide ((64 : Int) < (R.length : Int)) = true := decide_eq_true (by omega)
      have hE1 : E = 1 := by rw [← HE.out]; unfold allN; rw [if_pos hc, if_neg h64]
      subst hE1
      clear hc HE
      go_wp2_with fail
      go_ret
      exact ⟨rfl, HB1.out⟩
  · have dne : (c != (0 : Int)) = true := by simpa using hc0
    have hE1 : E = c := by rw [← HE.out]; unfold allN; rw [hc, if_neg hc0]
    subst hE1
    clear HE
    go_wp2_with fail
    go_ret
    exact ⟨rfl, HB1.out⟩
end
section
set_option maxRecDepth 100000
open Go.RowKit
attribute [local go_sem] toList_mk mk_size bytes_append str_append
def badP (s : SchemaL) (c : Int × Int) (r : RecL) : Bool := !(decide (checkN s r = 0) && rightC s.fields c) || (r.vals.getD c.1.toNat []).isEmpty
theorem part_bad {s : SchemaL} {c : Int × Int} {r : RecL} (h : badP s c r = true) : partX s c r = [] := by
  unfold badP at h
  unfold partX
  split
  · next h2 =>
    rw [decide_eq_true h2.1, h2.2] at h
    have h3 : (r.vals.getD c.1.toNat []).isEmpty = true := by simpa using h
    unfold compN partN
    rw [if_pos (List.isEmpty_iff.1 h3)]
  · rfl
theorem part_good {s : SchemaL} {c : Int × Int} {r : RecL} (h : badP s c r = false) : checkN s r = 0 ∧ rightC s.fields c = true ∧ r.vals.getD c.1.toNat [] ≠ [] ∧ partX s c r = transN c.2 (r.vals.getD c.1.toNat []) := by
  unfold badP at h
  simp only [Bool.or_eq_false_iff, Bool.not_eq_false', Bool.and_eq_true, decide_eq_true_eq] at h
  obtain ⟨⟨h1, h2⟩, h3⟩ := h
  have h4 : r.vals.getD c.1.toNat [] ≠ [] := by intro e; rw [e] at h3; simp at h3
  refine ⟨h1, h2, h4, ?_⟩
  unfold partX
  rw [if_pos ⟨h1, h2⟩]
  unfold compN partN
  rw [if_neg h4]
/-- the value of a component that fits a valid record -/
theorem part_value {s : SchemaL} {c : Int × Int} {r : RecL} (h1 : checkN s r = 0) (h2 : rightC s.fields c = true) (h4 : r.vals.getD c.1.toNat [] ≠ []) :
    ∃ fn : Nat, c.1 = fn ∧ fn < s.fields.length ∧ r.vals.length = s.fields.length ∧ (1 ≤ c.2 ∧ c.2 ≤ 5) ∧ (r.vals.getD fn []).length ≤ 64 ∧ (c.2 = 4 → (r.vals.getD fn []).length = 8) := by
  obtain ⟨f, t⟩ := c
  unfold rightC at h2
  simp only [Bool.and_eq_true, decide_eq_true_eq] at h2
  dsimp only at h4 ⊢
  obtain ⟨f0, f1, f2⟩ := h2
  obtain ⟨fn, rfl⟩ := Int.eq_ofNat_of_zero_le f0
  rw [Int.toNat_natCast] at h4 f2
  obtain ⟨hc, _, hl, hno⟩ := checkN_ok h1
  have hfl : fn < s.fields.length := by omega
  have hfn : fn < r.vals.length := by omega
  have hnj := normA_get s r.vals 0 hno fn hfn
  rw [Nat.zero_add] at hnj
  have hfi : findN s (fn : Int) = ((s.fields.getD fn default).2, 0) := findN_in hc hfl
  have hown : ownK (s.fields.getD fn default).2 s.rules (r.vals.getD fn []) = true := by
    unfold normalB at hnj
    rw [hfi, if_pos rfl, if_neg h4] at hnj
    exact hnj
  have hkk := findN_kind (s := s) (f := (fn : Int)) (by rw [hfi])
  rw [hfi] at hkk
  have ho := own_facts hown hkk
  refine ⟨fn, rfl, hfl, hl, ?_, ho.1, fun h4' => ho.2.2 ?_⟩
  · unfold fitsB at f2
    split at f2
    · omega
    · split at f2
      · omega
      · split at f2
        · omega
        · split at f2
          · omega
          · simp at f2
  · unfold fitsB at f2
    rw [h4'] at f2
    simpa using f2
set_option maxHeartbeats 16000000 in
theorem rpart_any (S : Nat → Prop) (vf vt vn vs : Value) (s : SchemaL) (c : Int × Int) (r : RecL) (sv : Value) (w : World) (h : SchemaAt w S vf vt vn vs s) (hv : Vec w Any1 1 encS sv r.vals) (hs : ∀ x ∈ r.vals, x.length ≤ 1000000) (hvn : r.vals.length ≤ 1000000) (hn : s.fields.length ≤ 1000) :
    Calls Tryz.prog 26 #[.agg #[vf, vt, vn, vs], .agg #[.int .i64 c.1, .int .i64 c.2], .agg #[.int .i64 r.id, .int .i64 r.ver, sv]] w fun e w' => e = .returned (strV (partX s c r)) ∧ Below w.heap.size w w' := by
  obtain ⟨av, cv, rfl⟩ := hv.slice
  obtain ⟨af, cf, rfl⟩ := h.1.slice
  obtain ⟨N, hN⟩ : ∃ N, s.fields.length = N := ⟨_, rfl⟩
  obtain ⟨M, hM⟩ : ∃ M, r.vals.length = M := ⟨_, rfl⟩
  obtain ⟨bd, hbd⟩ : ∃ bd, badP s c r = bd := ⟨_, rfl⟩
  obtain ⟨ce, hce⟩ : ∃ ce, checkN s r = ce := ⟨_, rfl⟩
  have HS := Lib.hid h; have HV := Lib.hid hv; have HSh := Lib.hid hs; have HN := Lib.hid hN; have HM := Lib.hid hM; have HBd := Lib.hid hbd; have HCe := Lib.hid hce
  rw [hN] at hn ⊢
  rw [hM] at hvn ⊢
  have HCk := Lib.hid (show ∀ W, Below w.heap.size w W → Calls Tryz.prog 65 #[.agg #[.slice af N cf, vt, vn, vs], .agg #[.int .i64 r.id, .int .i64 r.ver, .slice av M cv]] W fun e w' => e = .returned (.int .i64 ce) ∧ Below W.heap.size W w' from fun W hb => by
    have h1 := rrcheck_any S Any1 (.slice af s.fields.length cf) vt vn vs s r (.slice av r.vals.length cv) W (HS.out.below hb) (HV.out.below hb) HSh.out (by rw [HM.out]; exact hvn)
    rw [HN.out, HM.out, HCe.out] at h1
    exact h1)
  obtain ⟨f, t⟩ := c
  obtain ⟨rid, rver, vals⟩ := r
  obtain ⟨res, hres⟩ : ∃ res, partX s (f, t) ⟨rid, rver, vals⟩ = res := ⟨_, rfl⟩
  rw [hres]
  have HRes := Lib.hid hres
  dsimp only at HV HSh HM HBd HCe HCk ⊢
  clear h hv hs hN hM hbd hce hres
  go_enter Tryz.func26, Tryz.ntmps26
  go_wp2_with fail
  refine wp_world (fun W hW => ?_)
  have hb0 : Below w.heap.size w W := by rw [hW]; exact (((Below.refl w.heap.size w).alloc (Nat.le_refl _) _).alloc (by simp) _).alloc (by simp; omega) _
  have hs0 : W.heap[w.heap.size]? = some (.cells #[.slice af N cf, vt, vn, vs] 43 (0, 0)) := by rw [hW]; exact blk_old (blk_old (blk_new rfl))
  have hc0 : W.heap[w.heap.size + 1]? = some (.cells #[.int .i64 f, .int .i64 t] 31 (0, 0)) := by rw [hW]; exact blk_old (blk_new (by simp))
  have hr0 : W.heap[w.heap.size + 2]? = some (.cells #[.int .i64 rid, .int .i64 rver, .slice av M cv] 29 (0, 0)) := by rw [hW]; exact blk_new (by simp)
  clear hW
  have HB0 := Lib.hid hb0; have HR0 := Lib.hid hr0; have HC0 := Lib.hid hc0
  obtain ⟨s0, s1, s2, s3⟩ := cellsS hs0; obtain ⟨q0, q1⟩ := cells2K hc0; obtain ⟨r0, r1, r2⟩ := cells3 hr0
  have cC := in_regrown W (fun W' hb => HCk.out W' (HB0.out.trans (hb.mono HB0.out.size)))
  clear hb0 hs0 hc0 hr0
  go_cut [46] (fun s46 wx => s46 = .bool bd ∧ Below W.heap.size W wx)
  case first =>
    have p0 := cell_regrown s0; have p1 := cell_regrown s1; have p2 := cell_regrown s2; have p3 := cell_regrown s3; have p4 := cell_regrown q0; have p5 := cell_regrown q1; have p6 := cell_regrown r0; have p7 := cell_regrown r1; have p8 := cell_regrown r2
    by_cases hc0 : ce = 0
    · subst hc0
      have dz : ((0 : Int) != 0) = false := rfl
      by_cases hf0 : 0 ≤ f
      · obtain ⟨fn, rfl⟩ := Int.eq_ofNat_of_zero_le hf0
        have g0 : decide ((fn : Int) < 0) = false := by simp
        by_cases hf1 : fn < N
        · have g1 : decide ((N : Int) ≤ (fn : Int)) = false := by simp only [decide_eq_false_iff_not]; omega
          have g1n : decide (N ≤ fn) = false := by simp only [decide_eq_false_iff_not]; omega
          have hfi2 : (fn : Int) < (N : Int) := by omega
          have hfl : fn < s.fields.length := by rw [HN.out]; exact hf1
          have hMN : M = N := by rw [← HM.out, ← HN.out]; exact (checkN_ok HCe.out).2.2.1
          have hfM : fn < vals.length := by rw [HM.out, hMN]; exact hf1
          have hfi3 : (fn : Int) < (M : Int) := by rw [hMN]; exact hfi2
          clear hMN
          have hvf := HS.out.1
          rw [HN.out] at hvf
          obtain ⟨bf, of, rfl, lbf, hcf⟩ := (hvf.below HB0.out).get fn hfl
          have x1 := hcf 1 _ rfl
          obtain ⟨kk, hkk⟩ : ∃ kk, (s.fields.getD fn default).2 = kk := ⟨_, rfl⟩
          have hkk2 : s.fields[fn].2 = kk := by rw [← hkk, List.getD, List.getElem?_eq_getElem hfl]; rfl
          rw [hkk2] at x1
          have x2 := cell_regrown x1
          have hvv := HV.out
          rw [HM.out] at hvv
          obtain ⟨bv, ov, rfl, lbv, hcv⟩ := (hvv.below HB0.out).get fn hfM
          have y1 := hcv 0 _ rfl
          obtain ⟨v, hv⟩ : ∃ v, vals.getD fn [] = v := ⟨_, rfl⟩
          have hv2 : vals[fn] = v := by rw [← hv, List.getD, List.getElem?_eq_getElem hfM]; rfl
          rw [hv2, Nat.mul_one, Nat.add_zero] at y1
          have y1 : W.cell? ⟨bv, ov + fn, none⟩ = some (strV v) := y1
          have y2 := cell_regrown y1
          obtain ⟨fb, hfb⟩ : ∃ fb, fitsB t kk = fb := ⟨_, rfl⟩
          have hbd := HBd.out
          have hrt : rightC s.fields ((fn : Int), t) = fb := by
            unfold rightC
            dsimp only
            rw [decide_eq_true (show (0 : Int) ≤ (fn : Int) by omega), decide_eq_true (show (fn : Int) < (s.fields.length : Int) by omega), Int.toNat_natCast, hkk, hfb]
            rfl
          unfold badP at hbd
          rw [hrt, decide_eq_true HCe.out] at hbd
          dsimp only at hbd
          rw [Int.toNat_natCast, hv] at hbd
          have cF := in_regrown W (fun W' _ => (rfits_any t kk W').mono fun e w' h' => (⟨h'.1, by rw [← h'.2]; exact Below.refl _ _⟩ : e = .returned (.bool (fitsB t kk)) ∧ Below W'.heap.size W' w'))
          rw [hfb] at cF
          have HBd2 := Lib.hid hbd
          clear hvf hcf hkk hkk2 hfb hrt hbd hf0 hv hv2 hvv hcv hfl hfM hf1
          cases fb
          · have hb1 : true = bd := by rw [← HBd2.out]; rfl
            subst hb1
            clear HBd2
            refine wp_region_quiet_below (by kernel_rfl) (by kernel_rfl) ?_
            repeat (go_big_quiet_step (first | with_reducible exact cC _ _ | with_reducible exact cF _ _))
            refine wpQuiet_nil ?_
            intro _ hw'
            obtain ⟨⟨dq, osq⟩, hw''⟩ := hw'
            subst hw''
            have HWq := Lib.hid (below_regrown W dq osq)
            go_wp2_with fail
            go_meet
            exact ⟨rfl, HWq.out⟩
          · cases v with
            | nil =>
              have hb1 : true = bd := by rw [← HBd2.out]; rfl
              subst hb1
              clear HBd2
              refine wp_region_quiet_below (by kernel_rfl) (by kernel_rfl) ?_
              repeat (go_big_quiet_step (first | with_reducible exact cC _ _ | with_reducible exact cF _ _))
              refine wpQuiet_nil ?_
              intro _ hw'
              obtain ⟨⟨dq, osq⟩, hw''⟩ := hw'
              subst hw''
              have HWq := Lib.hid (below_regrown W dq osq)
              go_wp2_with fail
              go_meet
              exact ⟨rfl, HWq.out⟩
            | cons x v =>
              have hb1 : false = bd := by rw [← HBd2.out]; rfl
              subst hb1
              clear HBd2
              refine wp_region_quiet_below (by kernel_rfl) (by kernel_rfl) ?_
              repeat (go_big_quiet_step (first | with_reducible exact cC _ _ | with_reducible exact cF _ _))
              refine wpQuiet_nil ?_
              intro _ hw'
              obtain ⟨⟨dq, osq⟩, hw''⟩ := hw'
              subst hw''
              have HWq := Lib.hid (below_regrown W dq osq)
              go_wp2_with fail
              go_meet
              exact ⟨rfl, HWq.out⟩
        · have g1 : decide ((N : Int) ≤ (fn : Int)) = true := by simp only [decide_eq_true_eq]; omega
          have g1n : decide (N ≤ fn) = true := by simp only [decide_eq_true_eq]; omega
          have hb1 : true = bd := by
            rw [← HBd.out]; unfold badP rightC; dsimp only
            rw [decide_eq_false (show ¬ (fn : Int) < (s.fields.length : Int) by rw [HN.out]; omega)]; simp
          subst hb1
          clear hf0
          refine wp_region_quiet_below (by kernel_rfl) (by kernel_rfl) ?_
          repeat (go_big_quiet_step (first | with_reducible exact cC _ _))
          refine wpQuiet_nil ?_
          intro _ hw'
          obtain ⟨⟨dq, osq⟩, hw''⟩ := hw'
          subst hw''
          have HWq := Lib.hid (below_regrown W dq osq)
          go_wp2_with fail
          go_meet
          exact ⟨rfl, HWq.out⟩
      · have g0 : decide (f < 0) = true := by simp only [decide_eq_true_eq]; omega
        have hb1 : true = bd := by
          rw [← HBd.out]; unfold badP rightC; dsimp only
          rw [decide_eq_false hf0]; simp
        subst hb1
        clear hf0
        refine wp_region_quiet_below (by kernel_rfl) (by kernel_rfl) ?_
        repeat (go_big_quiet_step (first | with_reducible exact cC _ _))
        refine wpQuiet_nil ?_
        intro _ hw'
        obtain ⟨⟨dq, osq⟩, hw''⟩ := hw'
        subst hw''
        have HWq := Lib.hid (below_regrown W dq osq)
        go_wp2_with fail
        go_meet
        exact ⟨rfl, HWq.out⟩
    · have dne : (ce != (0 : Int)) = true := by simpa using hc0
      have hb1 : true = bd := by
        rw [← HBd.out]; unfold badP
        rw [decide_eq_false (by rw [HCe.out]; exact hc0)]; simp
      subst hb1
      clear hc0
      refine wp_region_quiet_below (by kernel_rfl) (by kernel_rfl) ?_
      repeat (go_big_quiet_step (first | with_reducible exact cC _ _))
      refine wpQuiet_nil ?_
      intro _ hw'
      obtain ⟨⟨dq, osq⟩, hw''⟩ := hw'
      subst hw''
      have HWq := Lib.hid (below_regrown W dq osq)
      go_wp2_with fail
      go_meet
      exact ⟨rfl, HWq.out⟩
  case rest =>
    obtain ⟨rfl, hb⟩ := hcut
    cases bd
    · obtain ⟨g1, g2, g4, g5⟩ := part_good HBd.out
      obtain ⟨fn, hf, hfl, hvl, ht, h64, h8⟩ := part_value g1 g2 g4
      dsimp only at hf hvl ht h64 h8 g4 g5
      subst hf
      rw [Int.toNat_natCast] at g4 g5
      have hfM : fn < vals.length := by rw [hvl]; exact hfl
      have hfi3 : (fn : Int) < (M : Int) := by rw [← HM.out]; omega
      have hvv := HV.out
      rw [HM.out] at hvv
      obtain ⟨bv, ov, rfl, lbv, hcv⟩ := (hvv.below HB0.out).get fn hfM
      have y1 := hcv 0 _ rfl
      obtain ⟨v, hv⟩ : ∃ v, vals.getD fn [] = v := ⟨_, rfl⟩
      have hv2 : vals[fn] = v := by rw [← hv, List.getD, List.getElem?_eq_getElem hfM]; rfl
      rw [hv2, Nat.mul_one, Nat.add_zero] at y1
      rw [hv] at g4 g5 h64 h8
      have y1 : W.cell? ⟨bv, ov + fn, none⟩ = some (strV v) := y1
      have y2 := (hb.cell (p := ⟨bv, ov + fn, none⟩) lbv).trans y1
      obtain ⟨q0, q1⟩ := cells2K (blk_below hb (lt_of_blk HC0.out) HC0.out)
      obtain ⟨r0, r1, r2⟩ := cells3 (blk_below hb (lt_of_blk HR0.out) HR0.out)
      have HBx := Lib.hid (HB0.out.trans (hb.mono HB0.out.size))
      have HFin := Lib.hid (show Ending.returned (strV (transN t v)) = .returned (strV res) by rw [← HRes.out, g5])
      have HG4 := Lib.hid g4; have H8 := Lib.hid h8
      clear hb g1 g2 g4 g5 hv hv2 y1 hvv hcv hfl hfM hvl HRes h8 s0 s1 s2 s3 cC
      by_cases t2 : t = 2
      · subst t2
        have HF := Lib.hid (show Ending.returned (strV (soundL v)) = .returned (strV res) from HFin.out)
        clear HFin
        go_wp2_with fail
        refine (rsndkey_any v _ (by omega)).mono ?_
        rintro e w2 ⟨rfl, hb2⟩
        go_wp2_with fail
        go_ret
        exact ⟨HF.out, HBx.out.trans (hb2.mono HBx.out.size)⟩
      have d2 : (t == (2 : Int)) = false := by simpa using t2
      by_cases t3 : t = 3
      · subst t3
        have HF := Lib.hid (show Ending.returned (strV (v.take 1)) = .returned (strV res) from HFin.out)
        have hx := extract_take v 1
        have hl1 : 1 ≤ v.length := by
          have := HG4.out
          cases v with
          | nil => exact absurd rfl this
          | cons x v => simp
        have hl2 : (1 : Int) ≤ (v.length : Int) := by omega
        clear HFin d2 t2
        go_wp2_with fail
        go_ret
        exact ⟨HF.out, HBx.out⟩
      have d3 : (t == (3 : Int)) = false := by simpa using t3
      by_cases t4 : t = 4
      · subst t4
        have HF := Lib.hid (show Ending.returned (strV (v.take 4)) = .returned (strV res) from HFin.out)
        have hx := extract_take v 4
        have hl0 : v.length = 8 := H8.out rfl
        have hl1 : 4 ≤ v.length := by omega
        have hl2 : (4 : Int) ≤ (v.length : Int) := by omega
        clear HFin d2 t2 d3 t3 hl0
        go_wp2_with fail
        go_ret
        exact ⟨HF.out, HBx.out⟩
      have d4 : (t == (4 : Int)) = false := by simpa using t4
      by_cases t5 : t = 5
      · subst t5
        have HF := Lib.hid (show Ending.returned (strV (numL v)) = .returned (strV res) from HFin.out)
        clear HFin d2 t2 d3 t3 d4 t4
        go_wp2_with fail
        refine (ranum_any v _ (by omega)).mono ?_
        rintro e w2 ⟨rfl, hb2⟩
        go_wp2_with fail
        go_ret
        exact ⟨HF.out, HBx.out.trans (hb2.mono HBx.out.size)⟩
      have d5 : (t == (5 : Int)) = false := by simpa using t5
      obtain rfl : t = 1 := by omega
      have HF := Lib.hid (show Ending.returned (strV v) = .returned (strV res) from HFin.out)
      clear HFin d2 t2 d3 t3 d4 t4 d5 t5
      go_wp2_with fail
      go_ret
      exact ⟨HF.out, HBx.out⟩
    · have hr2 : res = [] := by rw [← HRes.out]; exact part_bad HBd.out
      subst hr2
      have HBx := Lib.hid (HB0.out.trans (hb.mono HB0.out.size))
      clear hb
      go_wp2_with fail
      go_ret
      exact ⟨rfl, HBx.out⟩
end
section
set_option maxRecDepth 100000
open Go.RowKit
set_option maxHeartbeats 400000 in
theorem rrot13 (x : Int) (w : World) : Calls Tryz.prog 250 #[.int .u64 x, .int .i64 13] w fun e w' => e = .returned (.int .u64 (rotP 8192 2251799813685248 x)) ∧ Below w.heap.size w w' := by
  have hw : IntKind.i64.wrap 51 = 51 := by decide
  go_enter Tryz.func250, Tryz.ntmps250
  go_wp2_with fail
  refine wp_region_noPanic ?_
  refine wp_region_held_drew (S := (fun _ => True)) (by kernel_rfl) (trivial) (fun hHeld => ?_)
  refine tH 0 (h := ?_)
  refine tH 1 (h := ?_)
  refine tH 2 (h := ?_)
  refine tH 3 (h := ?_)
  refine tH 4 (h := ?_)
  refine tH 5 (h := ?_)
  refine tH 6 (h := ?_)
  refine tH 7 (h := ?_)
  refine tH 8 (h := ?_)
  refine wpAnyH_done (by kernel_rfl) ?_ _
  refine NoPanic.normal ?_
  go_wp2_with fail
  go_ret
  exact ⟨rfl, (Below.refl _ _).drew⟩
set_option maxHeartbeats 400000 in
theorem rrot32 (x : Int) (w : World) : Calls Tryz.prog 250 #[.int .u64 x, .int .i64 32] w fun e w' => e = .returned (.int .u64 (rotP 4294967296 4294967296 x)) ∧ Below w.heap.size w w' := by
  have hw : IntKind.i64.wrap 32 = 32 := by decide
  go_enter Tryz.func250, Tryz.ntmps250
  go_wp2_with fail
  refine wp_region_noPanic ?_
  refine wp_region_held_drew (S := (fun _ => True)) (by kernel_rfl) (trivial) (fun hHeld => ?_)
  refine tH 0 (h := ?_)
  refine tH 1 (h := ?_)
  refine tH 2 (h := ?_)
  refine tH 3 (h := ?_)
  refine tH 4 (h := ?_)
  refine tH 5 (h := ?_)
  refine tH 6 (h := ?_)
  refine tH 7 (h := ?_)
  refine tH 8 (h := ?_)
  refine wpAnyH_done (by kernel_rfl) ?_ _
  refine NoPanic.normal ?_
  go_wp2_with fail
  go_ret
  exact ⟨rfl, (Below.refl _ _).drew⟩
set_option maxHeartbeats 400000 in
theorem rrot16 (x : Int) (w : World) : Calls Tryz.prog 250 #[.int .u64 x, .int .i64 16] w fun e w' => e = .returned (.int .u64 (rotP 65536 281474976710656 x)) ∧ Below w.heap.size w w' := by
  have hw : IntKind.i64.wrap 48 = 48 := by decide
  go_enter Tryz.func250, Tryz.ntmps250
  go_wp2_with fail
  refine wp_region_noPanic ?_
  refine wp_region_held_drew (S := (fun _ => True)) (by kernel_rfl) (trivial) (fun hHeld => ?_)
  refine tH 0 (h := ?_)
  refine tH 1 (h := ?_)
  refine tH 2 (h := ?_)
  refine tH 3 (h := ?_)
  refine tH 4 (h := ?_)
  refine tH 5 (h := ?_)
  refine tH 6 (h := ?_)
  refine tH 7 (h := ?_)
  refine tH 8 (h := ?_)
  refine wpAnyH_done (by kernel_rfl) ?_ _
  refine NoPanic.normal ?_
  go_wp2_with fail
  go_ret
  exact ⟨rfl, (Below.refl _ _).drew⟩
set_option maxHeartbeats 400000 in
theorem rrot21 (x : Int) (w : World) : Calls Tryz.prog 250 #[.int .u64 x, .int .i64 21] w fun e w' => e = .returned (.int .u64 (rotP 2097152 8796093022208 x)) ∧ Below w.heap.size w w' := by
  have hw : IntKind.i64.wrap 43 = 43 := by decide
  go_enter Tryz.func250, Tryz.ntmps250
  go_wp2_with fail
  refine wp_region_noPanic ?_
  refine wp_region_held_drew (S := (fun _ => True)) (by kernel_rfl) (trivial) (fun hHeld => ?_)
  refine tH 0 (h := ?_)
  refine tH 1 (h := ?_)
  refine tH 2 (h := ?_)
  refine tH 3 (h := ?_)
  refine tH 4 (h := ?_)
  refine tH 5 (h := ?_)
  refine tH 6 (h := ?_)
  refine tH 7 (h := ?_)
  refine tH 8 (h := ?_)
  refine wpAnyH_done (by kernel_rfl) ?_ _
  refine NoPanic.normal ?_
  go_wp2_with fail
  go_ret
  exact ⟨rfl, (Below.refl _ _).drew⟩
set_option maxHeartbeats 400000 in
theorem rrot17 (x : Int) (w : World) : Calls Tryz.prog 250 #[.int .u64 x, .int .i64 17] w fun e w' => e = .returned (.int .u64 (rotP 131072 140737488355328 x)) ∧ Below w.heap.size w w' := by
  have hw : IntKind.i64.wrap 47 = 47 := by decide
  go_enter Tryz.func250, Tryz.ntmps250
  go_wp2_with fail
  refine wp_region_noPanic ?_
  refine wp_region_held_drew (S := (fun _ => True)) (by kernel_rfl) (trivial) (fun hHeld => ?_)
  refine tH 0 (h := ?_)
  refine tH 1 (h := ?_)
  refine tH 2 (h := ?_)
  refine tH 3 (h := ?_)
  refine tH 4 (h := ?_)
  refine tH 5 (h := ?_)
  refine tH 6 (h := ?_)
  refine tH 7 (h := ?_)
  refine tH 8 (h := ?_)
  refine wpAnyH_done (by kernel_rfl) ?_ _
  refine NoPanic.normal ?_
  go_wp2_with fail
  go_ret
  exact ⟨rfl, (Below.refl _ _).drew⟩
set_option maxHeartbeats 4000000 in
theorem rround_any (s : Sip) (w : World) : Calls Tryz.prog 216 #[.agg (sipC s)] w fun e w' => e = .returned (.agg (sipC (rndP s))) ∧ Below w.heap.size w w' := by
  obtain ⟨a, b, c, d⟩ := s
  go_enter Tryz.func216, Tryz.ntmps216
  go_wp2_with fail
  refine wp_world (fun W hW => ?_)
  have hb0 : Below w.heap.size w W := by rw [hW]; exact ((Below.refl _ _).alloc (Nat.le_refl _) _).alloc (by simp) _
  have hv0 : W.heap[w.heap.size]? = some (.cells (sipC ⟨a, b, c, d⟩) 232 (0, 0)) := by rw [hW]; exact blk_old (blk_new rfl)
  have hr0 : W.heap[w.heap.size + 1]? = some (.cells (sipC ⟨0, 0, 0, 0⟩) 232 (0, 0)) := by rw [hW]; exact blk_new (by simp)
  clear hW
  have HB0 := Lib.hid hb0; have HR0 := Lib.hid hr0
  obtain ⟨c0, c1, c2, c3⟩ := cellsS hv0
  clear hb0 hv0 hr0
  refine wp_region_noPanic ?_
  refine wp_region_held_drew (S := (fun w' => w'.cell? ⟨w.heap.size, 0, none⟩ = some (.int .u64 a) ∧ w'.cell? ⟨w.heap.size, 1, none⟩ = some (.int .u64 b) ∧ w'.cell? ⟨w.heap.size, 2, none⟩ = some (.int .u64 c) ∧ w'.cell? ⟨w.heap.size, 3, none⟩ = some (.int .u64 d))) (by kernel_rfl) (⟨c0, c1, c2, c3⟩) (fun hHeld => ?_)
  refine tH 0 (h := ?_)
  refine tH 1 (h := ?_)
  refine tH 2 (h := ?_)
  refine tH 3 (h := ?_)
  refine tH 4 (h := ?_)
  refine tH 5 (h := ?_)
  refine tH 6 (h := ?_)
  refine tH 7 (h := ?_)
  refine tH 8 (h := ?_)
  refine tH 9 (h := ?_)
  refine tH 10 (h := ?_)
  refine tH 11 (h := ?_)
  refine wpAnyH_done (by kernel_rfl) ?_ _
  refine NoPanic.normal ?_
  refine exitk_world (fun W1 hW1 => ?_)
  have hb1 : Below w.heap.size w W1 := by rw [hW1]; exact HB0.out.drew
  have hr1 : W1.heap[w.heap.size + 1]? = some (.cells (sipC ⟨0, 0, 0, 0⟩) 232 (0, 0)) := by rw [hW1]; exact HR0.out
  clear hW1 c0 c1 c2 c3 hHeld HB0 HR0
  have HB := Lib.hid hb1; have HR := Lib.hid hr1; clear hb1 hr1
  go_wp2_with fail
  refine (rrot13 _ _).mono ?_
  rintro e w1 ⟨rfl, hb⟩
  have hB := HB.out.trans (hb.mono HB.out.size); have hR := blk_below hb (lt_of_blk HR.out) HR.out
  clear HB HR hb; have HB := Lib.hid hB; have HR := Lib.hid hR; clear hB hR
  go_wp2_with fail
  refine (rrot32 _ _).mono ?_
  rintro e w2 ⟨rfl, hb⟩
  have hB := HB.out.trans (hb.mono HB.out.size); have hR := blk_below hb (lt_of_blk HR.out) HR.out
  clear HB HR hb; have HB := Lib.hid hB; have HR := Lib.hid hR; clear hB hR
  go_wp2_with fail
  refine (rrot16 _ _).mono ?_
  rintro e w3 ⟨rfl, hb⟩
  have hB := HB.out.trans (hb.mono HB.out.size); have hR := blk_below hb (lt_of_blk HR.out) HR.out
  clear HB HR hb; have HB := Lib.hid hB; have HR := Lib.hid hR; clear hB hR
  go_wp2_with fail
  refine (rrot21 _ _).mono ?_
  rintro e w4 ⟨rfl, hb⟩
  have hB := HB.out.trans (hb.mono HB.out.size); have hR := blk_below hb (lt_of_blk HR.out) HR.out
  clear HB HR hb; have HB := Lib.hid hB; have HR := Lib.hid hR; clear hB hR
  go_wp2_with fail
  refine (rrot17 _ _).mono ?_
  rintro e w5 ⟨rfl, hb⟩
  have hB := HB.out.trans (hb.mono HB.out.size); have hR := blk_below hb (lt_of_blk HR.out) HR.out
  clear HB HR hb; have HB := Lib.hid hB; have HR := Lib.hid hR; clear hB hR
  go_wp2_with fail
  refine (rrot32 _ _).mono ?_
  rintro e w6 ⟨rfl, hb⟩
  have hB := HB.out.trans (hb.mono HB.out.size); have hR := blk_below hb (lt_of_blk HR.out) HR.out
  clear HB HR hb; have HB := Lib.hid hB; have HR := Lib.hid hR; 
  obtain ⟨r0, r1, r2, r3⟩ := cellsS hR
  obtain ⟨f0, f1, f2, f3⟩ := freeS hR
  have lr := lt_of_blk hR
  clear hB hR
  go_wp2_with fail
  exact bodyPost_row1 rfl rfl (blk_set (i := 3) (blk_set (i := 2) (blk_set (i := 1) (blk_set (i := 0) HR.out)))) Tryz.underlying232 rfl (by kernel_rfl)
    ⟨rfl, (((HB.out.setCell (p := ⟨w.heap.size + 1, 0, none⟩) (Nat.le_succ _) _).setCell (p := ⟨w.heap.size + 1, 1, none⟩) (Nat.le_succ _) _).setCell (p := ⟨w.heap.size + 1, 2, none⟩) (Nat.le_succ _) _).setCell (p := ⟨w.heap.size + 1, 3, none⟩) (Nat.le_succ _) _⟩
end
section
set_option maxRecDepth 100000
open Go.RowKit
/-- s lies in block b; all but that block is as it was -/
def RipAt (w : World) (b : Nat) (s : Sip) (w' : World) : Prop := w'.heap[b]? = some (.cells (sipC s) 232 (0, 0)) ∧ w.grownBy w' (some b)
theorem RipAt.read {w w' : World} {b : Nat} {s : Sip} (h : RipAt w b s w') : (w'.cell? ⟨b, 0, none⟩ = some (.int .u64 s.a) ∧ w'.cell? ⟨b, 1, none⟩ = some (.int .u64 s.b) ∧ w'.cell? ⟨b, 2, none⟩ = some (.int .u64 s.c) ∧ w'.cell? ⟨b, 3, none⟩ = some (.int .u64 s.d)) ∧
    (w'.frozen? ⟨b, 0, none⟩ = false ∧ w'.frozen? ⟨b, 1, none⟩ = false ∧ w'.frozen? ⟨b, 2, none⟩ = false ∧ w'.frozen? ⟨b, 3, none⟩ = false) := ⟨cellsS h.1, freeS h.1⟩
theorem RipAt.set {w w' : World} {b i : Nat} {s s' : Sip} {v : Value} (h : RipAt w b s w') (e : (sipC s).setIfInBounds i v = sipC s') : RipAt w b s' (w'.setCell ⟨b, i, none⟩ v) :=
  ⟨by rw [← e]; exact blk_set h.1, grown_set h.2⟩
theorem RipAt.below {w w' w'' : World} {b : Nat} {s : Sip} (h : RipAt w b s w') (hb : Below w'.heap.size w' w'') : RipAt w b s w'' :=
  ⟨blk_below hb (lt_of_blk h.1) h.1, grown_trans h.2 (grown_below hb)⟩
theorem RipAt.all {w w' : World} {b : Nat} {s s' : Sip} (h : RipAt w b s w') : RipAt w b s' ((((w'.setCell ⟨b, 0, none⟩ (.int .u64 s'.a)).setCell ⟨b, 1, none⟩ (.int .u64 s'.b)).setCell ⟨b, 2, none⟩ (.int .u64 s'.c)).setCell ⟨b, 3, none⟩ (.int .u64 s'.d)) :=
  (((h.set (s' := ⟨s'.a, s.b, s.c, s.d⟩) rfl).set (s' := ⟨s'.a, s'.b, s.c, s.d⟩) rfl).set (s' := ⟨s'.a, s'.b, s'.c, s.d⟩) rfl).set rfl
theorem RipAt.base {w W w' : World} {b B : Nat} {s : Sip} (h : RipAt W b s w') (hb : Below B w W) (hB : B ≤ b) (hW : B ≤ W.heap.size) : Below B w w' :=
  hb.trans ⟨h.2.os, h.2.tape, h.2.output, h.2.size, fun k hk => h.2.block k (by omega) (by simp; omega)⟩
/-- the length's byte on top -/
theorem top_wrap (n : Nat) : (n : Int) % 256 * 72057594037927936 = IntKind.u64.wrap ((n : Int) * 72057594037927936) := by
  have h : ∀ x : Int, IntKind.u64.wrap x = x % 18446744073709551616 := fun x => rfl
  rw [h]; omega
set_option maxHeartbeats 8000000 in
theorem rsum_any (S : Nat → Prop) (ka kb : Int) (v : Value) (l : List UInt8) (w : World) (h : Vec w S 1 encB v l) (hl : l.length ≤ 1000000000) :
    Calls Tryz.prog 171 #[.agg #[.int .u64 ka, .int .u64 kb], v] w fun e w' => e = .returned (.int .u64 (sumP ka kb l)) ∧ Below w.heap.size w w' := by
  obtain ⟨a, cap, rfl⟩ := h.slice
  have hcap := h.len.2
  have HV := Lib.hid (h.any.move (S' := fun b => b < w.heap.size) (w' := w) (Nat.le_refl _) fun b hb _ => ⟨rfl, hb⟩); clear h
  go_enter Tryz.func171, Tryz.ntmps171
  go_wp2_with fail
  refine wp_world (fun W hW => ?_)
  have hb0 : Below w.heap.size w W := by rw [hW]; exact ((Below.refl _ _).alloc (Nat.le_refl _) _).alloc (by simp) _
  have hs0 : RipAt W (w.heap.size + 1) ⟨xr ka 8317987319222330741, xr kb 7237128888997146477, xr ka 7816392313619706465, xr kb 8387220255154660723⟩ W := by rw [hW]; exact ⟨blk_new (by simp), grown_refl _ _⟩
  have hv0 := HV.out.below hb0
  clear hW HV
  have HB0 := Lib.hid hb0; have HS0 := Lib.hid hs0; have HV0 := Lib.hid hv0
  clear hb0 hs0 hv0
  go_loopw [6] (fun at_ wr => ∃ (j : Nat) (s : Sip), at_ = .int .i64 ((8 * j : Nat) : Int) ∧ 8 * j ≤ l.length ∧ RipAt W (w.heap.size + 1) s wr ∧ Hid (eachP s (l.drop (8 * j)) ((l.drop (8 * j)).length / 8) = eachP ⟨xr ka 8317987319222330741, xr kb 7237128888997146477, xr ka 7816392313619706465, xr kb 8387220255154660723⟩ l (l.length / 8))) (fun at_ _ => l.length + 1 - (intOf at_).toNat)
  case atStart => exact ⟨0, _, rfl, by omega, HS0.out, Lib.hid rfl⟩
  case round =>
    obtain ⟨j, s, rfl, hj, hs, HE⟩ := hrel
    obtain ⟨J, hJ⟩ : ∃ J, 8 * j = J := ⟨_, rfl⟩
    rw [hJ] at hj HE ⊢
    obtain ⟨r, hr⟩ : ∃ r, l.drop J = r := ⟨_, rfl⟩
    have hrl : r.length = l.length - J := by rw [← hr, List.length_drop]
    rw [hr] at HE
    have HRD := Lib.hid hr; have HJ := Lib.hid hJ
    have HV := Lib.hid (HV0.out.grown (b := w.heap.size + 1) (fun x hx => by omega) hs.2)
    have HS := Lib.hid hs
    obtain ⟨⟨c0, c1, c2, c3⟩, f0, f1, f2, f3⟩ := hs.read
    have lb := lt_of_blk hs.1
    clear hs hr hJ
    by_cases hlt : 8 ≤ r.length
    · have hmin : min (8 : Int) ((l.length : Int) - (J : Int)) = 8 := by omega
      have hq8 : decide ((8 : Int) < 8) = false := rfl
      have hend : eachP s r (r.length / 8) = eachP (wordP s (numP 0 0 (r.take 8))) (r.drop 8) ((r.drop 8).length / 8) := eachP_more s r hlt
      have HEnd := Lib.hid hend; clear hend
      go_wp2_with fail
      go_loopw [7, 9] (fun m i wx => wx = wr ∧ ∃ (k : Nat) (mm : Int), i = .int .i64 k ∧ k ≤ 8 ∧ m = .int .u64 mm ∧ Hid (numP k mm ((r.take 8).drop k) = numP 0 0 (r.take 8))) (fun _ i _ => 8 - (intOf i).toNat)
      case atStart => exact ⟨rfl, 0, 0, rfl, by omega, rfl, Lib.hid rfl⟩
      case round =>
        obtain ⟨rfl, k, mm, rfl, hk, rfl, HT⟩ := hrel
        by_cases hlk : k < 8
        · have hq : decide ((k : Int) < 8) = true := by simp; omega
          obtain ⟨b, off, rfl, hb, hc⟩ := HV.out.get (J + k) (by omega)
          have c0 := hc 0 _ rfl
          rw [Nat.mul_one, Nat.add_zero] at c0
          unfold byteV at c0
          have hkr : k < (r.take 8).length := by rw [List.length_take]; omega
          have hg : (r.take 8)[k] = l[J + k] := by rw [List.getElem_take]; simp only [← HRD.out, List.getElem_drop]
          have ht := HT.out
          rw [List.drop_eq_getElem_cons hkr, hg] at ht
          have HT2 := Lib.hid ht
          clear ht hg HT hc
          go_wp2_with fail
          go_roundw
          case rel => exact ⟨trivial, k + 1, _, by go_num, by omega, rfl, Lib.hid (by rw [← HT2.out]; rfl)⟩
          case measure => simp [intOf]; omega
        · have hq : decide ((k : Int) < 8) = false := by simp; omega
          have hd : (r.take 8).drop k = [] := List.drop_eq_nil_of_le (by rw [List.length_take]; omega)
          rw [hd] at HT
          obtain rfl : mm = numP 0 0 (r.take 8) := HT.out
          clear HT hd hq
          obtain ⟨m, hm⟩ : ∃ m, numP 0 0 (r.take 8) = m := ⟨_, rfl⟩
          rw [hm] at HEnd ⊢
          have HM := Lib.hid hm; clear hm
          go_wp2_with fail
          have hS := HS.out.set (i := 3) (v := .int .u64 (xr s.d m)) (s' := ⟨s.a, s.b, s.c, xr s.d m⟩) rfl
          clear HS; have HS := Lib.hid hS; clear hS
          clear c0 c1 c2 c3 f0 f1 f2 f3
          refine (rround_any ⟨s.a, s.b, s.c, xr s.d m⟩ _).mono ?_
          rintro e w1 ⟨rfl, hb⟩
          have hS := HS.out.below hb
          clear HS hb; have HS := Lib.hid hS; clear hS
          go_wp2_with fail
          refine (rround_any (rndP ⟨s.a, s.b, s.c, xr s.d m⟩) _).mono ?_
          rintro e w2 ⟨rfl, hb⟩
          have hS := HS.out.below hb
          clear HS hb
          obtain ⟨t, ht⟩ : ∃ t, rndP (rndP ⟨s.a, s.b, s.c, xr s.d m⟩) = t := ⟨_, rfl⟩
          rw [ht]
          have hw : wordP s m = ⟨xr t.a m, t.b, t.c, t.d⟩ := by rw [← ht]; rfl
          have HW := Lib.hid hw
          have HS := Lib.hid hS
          obtain ⟨⟨c0, c1, c2, c3⟩, f0, f1, f2, f3⟩ := hS.read
          have lb2 := lt_of_blk hS.1
          clear hS ht hw
          go_wp2_with fail
          exact ⟨⟨j + 1, ⟨xr t.a m, t.b, t.c, t.d⟩, congrArg (Value.int .i64) (by have := HJ.out; omega), by have := HJ.out; omega, (HS.out.all (s' := t)).set (i := 0) (v := .int .u64 (xr t.a m)) rfl, Lib.hid (by rw [← HE.out, HEnd.out, HW.out, show 8 * (j + 1) = J + 8 by have := HJ.out; omega, ← List.drop_drop, HRD.out])⟩, by simp [intOf]; omega⟩
    · have hmin : min (8 : Int) ((l.length : Int) - (J : Int)) = (l.length : Int) - (J : Int) := by omega
      have hq8 : decide ((l.length : Int) - (J : Int) < 8) = true := by simp; omega
      have hr8 : r.take 8 = r := List.take_of_length_le (by omega)
      have hE := HE.out
      rw [eachP_end s r (by omega)] at hE
      have HE2 := Lib.hid hE.symm
      clear hE HE
      go_wp2_with fail
      go_loopw [7, 9] (fun m i wx => wx = wr ∧ ∃ (k : Nat) (mm : Int), i = .int .i64 k ∧ k ≤ r.length ∧ m = .int .u64 mm ∧ Hid (numP k mm ((r.take 8).drop k) = numP 0 0 (r.take 8))) (fun _ i _ => r.length - (intOf i).toNat)
      case atStart => exact ⟨rfl, 0, 0, rfl, by omega, rfl, Lib.hid rfl⟩
      case round =>
        obtain ⟨rfl, k, mm, rfl, hk, rfl, HT⟩ := hrel
        by_cases hlk : k < r.length
        · have hq : decide ((k : Int) < (l.length : Int) - (J : Int)) = true := by simp; omega
          obtain ⟨b, off, rfl, hb, hc⟩ := HV.out.get (J + k) (by omega)
          have c0 := hc 0 _ rfl
          rw [Nat.mul_one, Nat.add_zero] at c0
          unfold byteV at c0
          have hkr : k < (r.take 8).length := by rw [List.length_take]; omega
          have hg : (r.take 8)[k] = l[J + k] := by rw [List.getElem_take]; simp only [← HRD.out, List.getElem_drop]
          have ht := HT.out
          rw [List.drop_eq_getElem_cons hkr, hg] at ht
          have HT2 := Lib.hid ht
          clear ht hg HT hc
          go_wp2_with fail
          go_roundw
          case rel => exact ⟨trivial, k + 1, _, by go_num, by omega, rfl, Lib.hid (by rw [← HT2.out]; rfl)⟩
          case measure => simp [intOf]; omega
        · have hq : decide ((k : Int) < (l.length : Int) - (J : Int)) = false := by simp; omega
          have hd : (r.take 8).drop k = [] := List.drop_eq_nil_of_le (by rw [List.length_take]; omega)
          rw [hd] at HT
          obtain rfl : mm = numP 0 0 (r.take 8) := HT.out
          clear HT hd hq
          have htw := top_wrap l.length
          rw [hr8]
          obtain ⟨m, hm⟩ : ∃ m, bits .or .u64 (numP 0 0 r) (IntKind.u64.wrap ((l.length : Int) * 72057594037927936)) = m := ⟨_, rfl⟩
          have hm2 : bits .or .u64 (numP 0 0 r) ((l.length : Int) % 256 * 72057594037927936) = m := by rw [htw]; exact hm
          have HM := Lib.hid hm; clear hm htw
          go_wp2_with fail
          clear hm2
          have hS := HS.out.set (i := 3) (v := .int .u64 (xr s.d m)) (s' := ⟨s.a, s.b, s.c, xr s.d m⟩) rfl
          clear HS; have HS := Lib.hid hS; clear hS
          clear c0 c1 c2 c3 f0 f1 f2 f3
          refine (rround_any ⟨s.a, s.b, s.c, xr s.d m⟩ _).mono ?_
          rintro e w1 ⟨rfl, hb⟩
          have hS := HS.out.below hb
          clear HS hb; have HS := Lib.hid hS; clear hS
          go_wp2_with fail
          refine (rround_any (rndP ⟨s.a, s.b, s.c, xr s.d m⟩) _).mono ?_
          rintro e w2 ⟨rfl, hb⟩
          have hS := HS.out.below hb
          clear HS hb
          obtain ⟨t, ht⟩ : ∃ t, rndP (rndP ⟨s.a, s.b, s.c, xr s.d m⟩) = t := ⟨_, rfl⟩
          rw [ht]
          have hw : wordP s m = ⟨xr t.a m, t.b, t.c, t.d⟩ := by rw [← ht]; rfl
          have HW := Lib.hid hw
          have HS := Lib.hid hS
          obtain ⟨⟨c0, c1, c2, c3⟩, f0, f1, f2, f3⟩ := hS.read
          have lb2 := lt_of_blk hS.1
          clear hS ht hw
          go_upto_region 14 with fail
          refine wp_world (fun W1 hW1 => ?_)
          have hS : RipAt W (w.heap.size + 1) t W1 := by rw [hW1]; exact HS.out.all (s' := t)
          clear HS c0 c1 c2 c3 f0 f1 f2 f3 lb2 hW1; have HS := Lib.hid hS
          obtain ⟨⟨c0, c1, c2, c3⟩, f0, f1, f2, f3⟩ := hS.read
          have lb2 := lt_of_blk hS.1
          clear hS
          go_upto_region 16 with fail
          refine wp_world (fun W2 hW2 => ?_)
          have hS : RipAt W (w.heap.size + 1) ⟨xr t.a m, t.b, t.c, t.d⟩ W2 := by rw [hW2]; exact HS.out.set (i := 0) (v := .int .u64 (xr t.a m)) rfl
          clear HS c0 c1 c2 c3 f0 f1 f2 f3 lb2 hW2; have HS := Lib.hid hS
          obtain ⟨⟨c0, c1, c2, c3⟩, f0, f1, f2, f3⟩ := hS.read
          have lb2 := lt_of_blk hS.1
          clear hS
          go_wp2_with fail
          have hS := HS.out.set (i := 2) (v := .int .u64 (xr t.c 255)) (s' := ⟨xr t.a m, t.b, xr t.c 255, t.d⟩) rfl
          clear HS c0 c1 c2 c3 f0 f1 f2 f3; have HS := Lib.hid hS; clear hS
          obtain ⟨u, hu⟩ : ∃ u : Sip, (⟨xr t.a m, t.b, t.c, t.d⟩ : Sip) = u := ⟨_, rfl⟩
          refine (rround_any ⟨xr t.a m, t.b, xr t.c 255, t.d⟩ _).mono ?_
          rintro e w3 ⟨rfl, hb⟩
          have hS := HS.out.below hb
          clear HS hb; have HS := Lib.hid hS; clear hS
          go_wp2_with fail
          refine (rround_any (rndI 1 ⟨xr t.a m, t.b, xr t.c 255, t.d⟩) _).mono ?_
          rintro e w4 ⟨rfl, hb⟩
          have hS := HS.out.below hb
          clear HS hb; have HS := Lib.hid hS; clear hS
          go_wp2_with fail
          refine (rround_any (rndI 2 ⟨xr t.a m, t.b, xr t.c 255, t.d⟩) _).mono ?_
          rintro e w5 ⟨rfl, hb⟩
          have hS := HS.out.below hb
          clear HS hb; have HS := Lib.hid hS; clear hS
          go_wp2_with fail
          refine (rround_any (rndI 3 ⟨xr t.a m, t.b, xr t.c 255, t.d⟩) _).mono ?_
          rintro e w6 ⟨rfl, hb⟩
          have hS := HS.out.below hb
          clear HS hb
          obtain ⟨v, hv⟩ : ∃ v, rndI 4 ⟨xr t.a m, t.b, xr t.c 255, t.d⟩ = v := ⟨_, rfl⟩
          rw [show rndP (rndI 3 ⟨xr t.a m, t.b, xr t.c 255, t.d⟩) = v from hv]
          have HVv := Lib.hid hv
          have HS := Lib.hid hS
          obtain ⟨⟨c0, c1, c2, c3⟩, f0, f1, f2, f3⟩ := hS.read
          have lb2 := lt_of_blk hS.1
          clear hS hv hu
          go_upto_region 18 with fail
          refine wp_world (fun W3 hW3 => ?_)
          have hS : RipAt W (w.heap.size + 1) v W3 := by rw [hW3]; exact HS.out.all (s' := v)
          clear HS hW3 c0 c1 c2 c3 f0 f1 f2 f3; have HS := Lib.hid hS
          obtain ⟨⟨c0, c1, c2, c3⟩, f0, f1, f2, f3⟩ := hS.read
          have lb3 := lt_of_blk hS.1
          clear hS
          go_wp2_with fail
          go_ret
          refine ⟨?_, HS.out.base HB0.out (by omega) HB0.out.size⟩
          rw [← sumP_of ka kb l s r HE2.out ⟨xr t.a m, t.b, t.c, t.d⟩ (by rw [HM.out]; exact HW.out) v HVv.out]
          rfl
end
section
set_option maxRecDepth 100000
open Go.RowKit
set_option maxHeartbeats 4000000 in
theorem rsparts_any (S : Nat → Prop) (ka kb : Int) (v : Value) (L : List (List UInt8)) (w : World) (h : Vec w S 1 encS v L) (hl : ∀ t ∈ L, t.length ≤ 60000) (hn : L.length ≤ 1000) :
    Calls Tryz.prog 115 #[.agg #[.int .u64 ka, .int .u64 kb], v] w fun e w' => e = .returned (.int .u64 (partsP ka kb L)) ∧ Below w.heap.size w w' := by
  obtain ⟨a, cap, rfl⟩ := h.slice
  have HV := Lib.hid h.any; clear h
  have HL := Lib.hid hl; clear hl
  go_enter Tryz.func115, Tryz.ntmps115
  go_wp2_with fail
  refine wp_world (fun W hW => ?_)
  have hb0 : Below w.heap.size w W := by rw [hW]; exact (Below.refl _ _).alloc (Nat.le_refl _) _
  have hk : W.heap[w.heap.size]? = some (.cells #[.int .u64 ka, .int .u64 kb] 26 (0, 0)) := by rw [hW]; exact blk_new rfl
  have HV0 := Lib.hid (HV.out.below hb0)
  have HB0 := Lib.hid hb0; have HK := Lib.hid hk
  clear hW hb0 hk HV
  go_loopw [5, 6] (fun v i wr => ∃ k : Nat, i = .int .i64 k ∧ k ≤ L.length ∧ OwnV 5 1 encB W v ((L.take k).flatMap partP) wr) (fun _ i _ => L.length - (intOf i).toNat)
  case atStart => exact ⟨0, rfl, by omega, OwnV.start _ _ _ _⟩
  case round =>
    obtain ⟨k, rfl, hk, ho⟩ := hrel
    have HO := Lib.hid ho; clear ho
    by_cases hlt : k < L.length
    · have hq : decide ((k : Int) < L.length) = true := by simp; omega
      obtain ⟨t, ht⟩ : ∃ t, L[k] = t := ⟨_, rfl⟩
      have htl : t.length ≤ 60000 := HL.out t (by rw [← ht]; exact List.getElem_mem _)
      obtain ⟨b, off, rfl, hb, hc⟩ := (HV0.out.below HO.out.2).get k hlt
      have c0 := hc 0 _ rfl
      rw [Nat.mul_one, Nat.add_zero, ht] at c0
      clear hc
      have hm : decide ((65535 : Int) < t.length) = false := by simp; omega
      have hx := extract_all t
      obtain ⟨x, ex⟩ : ∃ x, UInt8.ofNat (t.length / 256) = x := ⟨_, rfl⟩
      obtain ⟨y, ey⟩ : ∃ y, UInt8.ofNat t.length = y := ⟨_, rfl⟩
      have hxa : (t.length : Int) / 256 = (x.toNat : Int) := by rw [← ex, UInt8.toNat_ofNat']; omega
      have hya : (t.length : Int) % 256 = (y.toNat : Int) := by rw [← ey, UInt8.toNat_ofNat']; omega
      have hp := partP_short t htl
      rw [ex, ey] at hp
      have hts : L.take (k + 1) = L.take k ++ [t] := by rw [List.take_succ_eq_append_getElem hlt, ht]
      have htk := sparts_len (L.take k) fun u hu => HL.out u (List.mem_of_mem_take hu)
      rw [List.length_take] at htk
      have HP := Lib.hid hp; have HTs := Lib.hid hts
      clear hp hts ex ey
      obtain ⟨P, hP⟩ : ∃ P, (L.take k).flatMap partP = P := ⟨_, rfl⟩
      rw [hP] at HO htk
      have HPP := Lib.hid hP; clear hP
      have HO1 := Lib.hid (HO.out.below ((Below.refl _ _).alloc (Nat.le_refl _) (.cells #[.int .u8 (x.toNat : Int), .int .u8 (y.toNat : Int)] 5)))
      have HR1 := Lib.hid (reads_row (xs := [x, y].flatMap encB) (n := 2) (c := 2) (heap_alloc_new wr (.cells #[.int .u8 (x.toNat : Int), .int .u8 (y.toNat : Int)] 5)) rfl)
      have hz0 := HO.out.2.size
      have hlen : P.length + ([x, y] : List UInt8).length ≤ 1000000000 := by simp only [List.length_cons, List.length_nil]; omega
      have hlen2 : (P ++ [x, y]).length + t.length ≤ 1000000000 := by rw [List.length_append]; simp only [List.length_cons, List.length_nil]; omega
      go_wp2_with (at_builtin; first | (refine wpList_append_v rfl (.tmp 23) (.tmp 31) 183 rfl 5 (.int .u8 0) 1 1 encB (fun _ => rfl) one_encB Tryz.underlying183 infoBy rfl (by decide) (by decide) (w0 := W) (v := u5) (A := P) (B := [x, y]) rfl HO1.out rfl HR1.out hlen ?_; intro v2 w2 ho2 hk2 hz2) | (refine wpList_append_s rfl (.tmp 33) (.tmp 34) 183 9 rfl 5 Tryz.underlying183 Tryz.underlying9 infoBy (w0 := W) (v := v2) (A := P ++ [x, y]) t rfl ho2 rfl hlen2 ?_; intro v3 w3 ho3 hz3))
      go_roundw
      case rel => exact ⟨k + 1, by go_num, by omega, by rw [HTs.out, List.flatMap_append, HPP.out, List.flatMap_cons, List.flatMap_nil, List.append_nil, HP.out, ← List.append_assoc]; exact ho3⟩
      case measure => simp [intOf]; omega
    · have hq : decide ((k : Int) < L.length) = false := by simp; omega
      have htk := sparts_len L fun u hu => HL.out u hu
      rw [List.take_of_length_le (by omega)] at HO
      have hz0 := HO.out.2.size
      have hk2 : wr.heap[w.heap.size]? = some (.cells #[.int .u64 ka, .int .u64 kb] 26 (0, 0)) := blk_below HO.out.2 (lt_of_blk HK.out) HK.out
      obtain ⟨k0, k1⟩ := cells2K hk2
      go_wp2_with fail
      refine (rsum_any _ ka kb _ (L.flatMap partP) _ (OwnV.vec (size := 1) (enc := encB) (fun _ => rfl) HO.out) (by omega)).mono ?_
      rintro e w2 ⟨rfl, hb2⟩
      go_wp2_with fail
      go_ret
      exact ⟨rfl, HB0.out.trans ((HO.out.2.mono HB0.out.size).trans (hb2.mono (by have := HB0.out.size; omega)))⟩
/-- two texts that lie in one block -/
theorem rparts_two (ka kb : Int) (x y : List UInt8) (hx : x.length ≤ 60000) (hy : y.length ≤ 60000) (w : World) (g : Nat) (h : w.heap[g]? = some (.cells #[strV x, strV y] 9 (0, 0))) :
    Calls Tryz.prog 115 #[.agg #[.int .u64 ka, .int .u64 kb], .slice (some ⟨g, 0, none⟩) 2 2] w fun e w' => e = .returned (.int .u64 (partsP ka kb [x, y])) ∧ Below w.heap.size w w' := by
  refine rsparts_any Any1 ka kb _ [x, y] w ⟨_, 2, rfl, by simp, fun _ => ⟨g, 0, rfl, trivial, lt_of_blk h, fun j z hj i u hu => ?_⟩⟩ (by intro t ht; simp at ht; rcases ht with rfl | rfl <;> omega) (by simp)
  rw [cell_of_row _ _ _ _ _ _ h]
  match j, i, hj, hu with
  | 0, 0, hj, hu => simp at hj; subst hj; simpa using hu
  | 1, 0, hj, hu => simp at hj; subst hj; simpa using hu
  | 0, i + 1, hj, hu => simp at hu
  | 1, i + 1, hj, hu => simp at hu
  | j + 2, _, hj, _ => simp at hj
set_option maxHeartbeats 4000000 in
theorem rderive_any (ka kb : Int) (l : List UInt8) (w : World) (hl : l.length ≤ 60000) :
    Calls Tryz.prog 101 #[.agg #[.int .u64 ka, .int .u64 kb], strV l] w fun e w' => e = .returned (.agg #[.int .u64 (deriveP ka kb l).1, .int .u64 (deriveP ka kb l).2]) ∧ Below w.heap.size w w' := by
  obtain ⟨p, hp⟩ : ∃ p, partsP ka kb [l, [97]] = p := ⟨_, rfl⟩
  obtain ⟨q, hq⟩ : ∃ q, partsP ka kb [l, [98]] = q := ⟨_, rfl⟩
  have hpq : deriveP ka kb l = (p, q) := by rw [← hp, ← hq]; rfl
  rw [hpq]
  have HP := Lib.hid hp; have HQ := Lib.hid hq
  clear hp hq hpq
  go_enter Tryz.func101, Tryz.ntmps101
  go_wp2_with fail
  refine wp_world (fun W hW => ?_)
  have hb0 : Below w.heap.size w W := by rw [hW]; exact ((Below.refl _ _).alloc (Nat.le_refl _) _).alloc (by simp) _
  have hk0 : W.heap[w.heap.size]? = some (.cells #[.int .u64 ka, .int .u64 kb] 26 (0, 0)) := by rw [hW]; exact blk_old (blk_new rfl)
  have hz0 : W.heap[w.heap.size + 1]? = some (.cells #[.int .u64 0, .int .u64 0] 26 (0, 0)) := by rw [hW]; exact blk_new (by simp)
  have hW0 := lt_of_blk hk0
  obtain ⟨k0, k1⟩ := cells2K hk0
  clear hW
  have bD : Below W.heap.size W W.drew := (Below.refl _ _).drew
  refine wp_region_noPanic ?_
  refine wp_region_k (by kernel_rfl) (fun w' => w'.cell? ⟨w.heap.size, 0, none⟩ = some (.int .u64 ka) ∧ w'.cell? ⟨w.heap.size, 1, none⟩ = some (.int .u64 kb)) 9 (⟨k0, k1⟩) (fun hHeld => ?_)
  refine tK 0 (h := ?_)
  refine tK 1 (h := ?_)
  refine tK 4 (h := ?_)
  refine tK 5 (h := ?_)
  refine wpAnyK_ready (rs := [2, 6]) (by kernel_rfl) (by simp) ?_
  refine AllReadyK.cons rfl (fun K hK => ?_) (AllReadyK.cons rfl (fun K hK => ?_) AllReadyK.nil)
  focus
    go_simp
    refine shutK hK (⟨((bD.alloc bD.size _).cell (p := ⟨w.heap.size, 0, none⟩) hW0).trans k0, ((bD.alloc bD.size _).cell (p := ⟨w.heap.size, 1, none⟩) hW0).trans k1⟩) (fun hHeld => ?_)
    clear hK K
    try simp only [List.getElem_toArray, List.getElem_cons_zero, List.getElem_cons_succ, Act.put, List.setIfInBounds_toArray, List.set_cons_zero, List.set_cons_succ]
    refine wpk_name (fun W1 hW1 => ?_)
    have b1 : Below W.heap.size W W1 := by rw [hW1]; exact bD.alloc bD.size (.cells #[strV l, strV [97]] 9)
    have g1 : W1.heap[W.heap.size]? = some (.cells #[strV l, strV [97]] 9 (0, 0)) := by rw [hW1]; exact blk_new rfl
    clear hW1
    refine wpAnyK_ready (rs := [3, 6]) (by kernel_rfl) (by simp) ?_
    refine AllReadyK.cons rfl (fun K hK => ?_) (AllReadyK.cons rfl (fun K hK => ?_) AllReadyK.nil)
    focus
      go_simp
      refine (rparts_two ka kb l [97] hl (by decide) _ _ g1).mono ?_
      rintro e w2 ⟨rfl, hb⟩
      have b2 := b1.trans (hb.mono b1.size)
      clear hb
      refine shutK hK (⟨(b2.cell (p := ⟨w.heap.size, 0, none⟩) hW0).trans k0, (b2.cell (p := ⟨w.heap.size, 1, none⟩) hW0).trans k1⟩) (fun hHeld => ?_)
      clear hK K
      try simp only [List.getElem_toArray, List.getElem_cons_zero, List.getElem_cons_succ, Act.put, List.setIfInBounds_toArray, List.set_cons_zero, List.set_cons_succ]
      refine wpAnyK_ready (rs := [6]) (by kernel_rfl) (by simp) ?_
      refine AllReadyK.cons rfl (fun K hK => ?_) AllReadyK.nil
      go_simp
      refine shutK hK (⟨((b2.alloc b2.size _).cell (p := ⟨w.heap.size, 0, none⟩) hW0).trans k0, ((b2.alloc b2.size _).cell (p := ⟨w.heap.size, 1, none⟩) hW0).trans k1⟩) (fun hHeld => ?_)
      clear hK K
      try simp only [List.getElem_toArray, List.getElem_cons_zero, List.getElem_cons_succ, Act.put, List.setIfInBounds_toArray, List.set_cons_zero, List.set_cons_succ]
      refine wpk_name (fun W3 hW3 => ?_)
      have b3 : Below W.heap.size W W3 := by rw [hW3]; exact b2.alloc b2.size (.cells #[strV l, strV [98]] 9)
      have g3 : W3.heap[w2.heap.size]? = some (.cells #[strV l, strV [98]] 9 (0, 0)) := by rw [hW3]; exact blk_new rfl
      clear hW3
    rotate_left 1
    focus
      go_simp
      refine shutK hK (⟨((b1.alloc b1.size _).cell (p := ⟨w.heap.size, 0, none⟩) hW0).trans k0, ((b1.alloc b1.size _).cell (p := ⟨w.heap.size, 1, none⟩) hW0).trans k1⟩) (fun hHeld => ?_)
      clear hK K
      try simp only [List.getElem_toArray, List.getElem_cons_zero, List.getElem_cons_succ, Act.put, List.setIfInBounds_toArray, List.set_cons_zero, List.set_cons_succ]
      refine wpk_name (fun W2 hW2 => ?_)
      have b2 : Below W.heap.size W W2 := by rw [hW2]; exact b1.alloc b1.size (.cells #[strV l, strV [98]] 9)
      have g3 : W2.heap[W1.heap.size]? = some (.cells #[strV l, strV [98]] 9 (0, 0)) := by rw [hW2]; exact blk_new rfl
      have g1' : W2.heap[W.heap.size]? = some (.cells #[strV l, strV [97]] 9 (0, 0)) := by rw [hW2]; exact blk_old g1
      clear hW2
      refine wpAnyK_ready (rs := [3]) (by kernel_rfl) (by simp) ?_
      refine AllReadyK.cons rfl (fun K hK => ?_) AllReadyK.nil
      go_simp
      refine (rparts_two ka kb l [97] hl (by decide) _ _ g1').mono ?_
      rintro e W3 ⟨rfl, hb⟩
      have b3 := b2.trans (hb.mono b2.size)
      have g3 := blk_below hb (lt_of_blk g3) g3
      clear hb
      refine shutK hK (⟨(b3.cell (p := ⟨w.heap.size, 0, none⟩) hW0).trans k0, (b3.cell (p := ⟨w.heap.size, 1, none⟩) hW0).trans k1⟩) (fun hHeld => ?_)
      clear hK K
      try simp only [List.getElem_toArray, List.getElem_cons_zero, List.getElem_cons_succ, Act.put, List.setIfInBounds_toArray, List.set_cons_zero, List.set_cons_succ]
  rotate_left 2
  focus
    go_simp
    refine shutK hK (⟨((bD.alloc bD.size _).cell (p := ⟨w.heap.size, 0, none⟩) hW0).trans k0, ((bD.alloc bD.size _).cell (p := ⟨w.heap.size, 1, none⟩) hW0).trans k1⟩) (fun hHeld => ?_)
    clear hK K
    try simp only [List.getElem_toArray, List.getElem_cons_zero, List.getElem_cons_succ, Act.put, List.setIfInBounds_toArray, List.set_cons_zero, List.set_cons_succ]
    refine wpk_name (fun W1 hW1 => ?_)
    have b1 : Below W.heap.size W W1 := by rw [hW1]; exact bD.alloc bD.size (.cells #[strV l, strV [98]] 9)
    have g3 : W1.heap[W.heap.size]? = some (.cells #[strV l, strV [98]] 9 (0, 0)) := by rw [hW1]; exact blk_new rfl
    clear hW1
    refine wpAnyK_ready (rs := [2]) (by kernel_rfl) (by simp) ?_
    refine AllReadyK.cons rfl (fun K hK => ?_) AllReadyK.nil
    go_simp
    refine shutK hK (⟨((b1.alloc b1.size _).cell (p := ⟨w.heap.size, 0, none⟩) hW0).trans k0, ((b1.alloc b1.size _).cell (p := ⟨w.heap.size, 1, none⟩) hW0).trans k1⟩) (fun hHeld => ?_)
    clear hK K
    try simp only [List.getElem_toArray, List.getElem_cons_zero, List.getElem_cons_succ, Act.put, List.setIfInBounds_toArray, List.set_cons_zero, List.set_cons_succ]
    refine wpk_name (fun W2 hW2 => ?_)
    have b2 : Below W.heap.size W W2 := by rw [hW2]; exact b1.alloc b1.size (.cells #[strV l, strV [97]] 9)
    have g1 : W2.heap[W1.heap.size]? = some (.cells #[strV l, strV [97]] 9 (0, 0)) := by rw [hW2]; exact blk_new rfl
    have g3' : W2.heap[W.heap.size]? = some (.cells #[strV l, strV [98]] 9 (0, 0)) := by rw [hW2]; exact blk_old g3
    clear hW2
    refine wpAnyK_ready (rs := [3]) (by kernel_rfl) (by simp) ?_
    refine AllReadyK.cons rfl (fun K hK => ?_) AllReadyK.nil
    go_simp
    refine (rparts_two ka kb l [97] hl (by decide) _ _ g1).mono ?_
    rintro e W3 ⟨rfl, hb⟩
    have b3 := b2.trans (hb.mono b2.size)
    have g3 := blk_below hb (lt_of_blk g3') g3'
    clear hb
    refine shutK hK (⟨(b3.cell (p := ⟨w.heap.size, 0, none⟩) hW0).trans k0, (b3.cell (p := ⟨w.heap.size, 1, none⟩) hW0).trans k1⟩) (fun hHeld => ?_)
    clear hK K
    try simp only [List.getElem_toArray, List.getElem_cons_zero, List.getElem_cons_succ, Act.put, List.setIfInBounds_toArray, List.set_cons_zero, List.set_cons_succ]
  all_goals
    refine wpAnyK_ready (rs := [7]) (by kernel_rfl) (by simp) ?_
    refine AllReadyK.cons rfl (fun K hK => ?_) AllReadyK.nil
    go_simp
    refine (rparts_two ka kb l [98] hl (by decide) _ _ g3).mono ?_; rintro e w4 ⟨rfl, hb⟩; have b4 := b3.trans (hb.mono b3.size); clear hb; rw [HP.out, HQ.out]
    refine shutK hK (⟨(b4.cell (p := ⟨w.heap.size, 0, none⟩) hW0).trans k0, (b4.cell (p := ⟨w.heap.size, 1, none⟩) hW0).trans k1⟩) (fun hHeld => ?_)
    clear hK K
    try simp only [List.getElem_toArray, List.getElem_cons_zero, List.getElem_cons_succ, Act.put, List.setIfInBounds_toArray, List.set_cons_zero, List.set_cons_succ]
    refine tK 8 (h := ?_)
    have hz4 := blk_below b4 (lt_of_blk hz0) hz0
    have hz5 := lt_of_blk hz4
    obtain ⟨z0, z1⟩ := cells2K hz4
    have y0 := frozen_of_row _ _ 0 _ _ hz4
    have y1 := frozen_of_row _ _ 1 _ _ hz4
    refine wpAnyK_ready (rs := [9]) (by kernel_rfl) (by simp) ?_
    refine AllReadyK.cons rfl (fun K hK => ?_) AllReadyK.nil
    go_simp
    refine shutK_off hK (by decide) ?_
    clear hK K
    try simp only [List.getElem_toArray, List.getElem_cons_zero, List.getElem_cons_succ, Act.put, List.setIfInBounds_toArray, List.set_cons_zero, List.set_cons_succ]
    refine wpAnyK_done (by kernel_rfl) ?_ _
    refine NoPanic.normal ?_
    go_wp2_with fail
    exact bodyPost_row1 rfl rfl (blk_set (i := 1) (v := .int .u64 q) (blk_set (i := 0) (v := .int .u64 p) hz4)) Tryz.underlying26 rfl (by kernel_rfl)
      ⟨rfl, ((hb0.trans (b4.mono hb0.size)).setCell (p := ⟨w.heap.size + 1, 0, none⟩) (Nat.le_succ _) _).setCell (p := ⟨w.heap.size + 1, 1, none⟩) (Nat.le_succ _) _⟩
end
end Go.Proofs.YtaoebplnbcimlaaGreatDoor
