/-
  For every input the law BlockingHashes returns true, and its arguments read afterwards as they read before; no condition.
-/
import Derived.Test.YthdolmofeeniaaaGreatDoorPartBk7
import Derived.Test.YthdolmofeeniaaaGreatDoorRows
import Derived.ProofKit
import Derived.JoinedOf
import Derived.WalkKit
import Derived.OpenShut
import Derived.ShutString
import Derived.ChangeOld
import Derived.Below
import Derived.Lib.SmallJoins
import Derived.Test.YthdolmofeeniaaaGreatDoorCards
import Derived.Test.YthdolmofeeniaaaGreatDoorTie
import Derived.LaidMore
import Derived.Lay
import Derived.SevenTiedAt
import Derived.Stop.Joined
section
/-
  The closed facts of the row of BlockingHashes, each a lemma of its own (so that the kernel gives its memory back behind each).
-/
namespace Go.Proofs.YthdolmofeeniaaaGreatDoor.blockingHashes
theorem and_tt {a b : Bool} (h : a = true) (h' : b = true) : (a && b) = true := by rw [h, h']; rfl
set_option maxRecDepth 100000 in
set_option maxHeartbeats 100000000 in
theorem closed : joinedFacts Tryz.pinned.checked.prog 3 Tryz.f3 Rows.blockingHashesSpec Rows.blockingHashesRow = true := by
  unfold joinedFacts
  repeat' (with_reducible refine and_tt ?_ ?_)
  · as_aux_lemma => kernel_rfl
  · as_aux_lemma => kernel_rfl
  · as_aux_lemma => kernel_rfl
  · as_aux_lemma => kernel_rfl
  · as_aux_lemma => kernel_rfl
  · as_aux_lemma => kernel_rfl
  · as_aux_lemma => kernel_rfl
  · as_aux_lemma => kernel_rfl
  · as_aux_lemma => kernel_rfl
  · as_aux_lemma => kernel_rfl
  · as_aux_lemma => kernel_rfl
  · as_aux_lemma => kernel_rfl
  · as_aux_lemma => kernel_rfl
  · as_aux_lemma => kernel_rfl
  · as_aux_lemma => kernel_rfl
  · as_aux_lemma => kernel_rfl
  · as_aux_lemma => kernel_rfl
  · as_aux_lemma => kernel_rfl
  · as_aux_lemma => kernel_rfl
  · as_aux_lemma => kernel_rfl
  · as_aux_lemma => kernel_rfl
  · as_aux_lemma => kernel_rfl
  · as_aux_lemma => kernel_rfl
  · as_aux_lemma => kernel_rfl
  · as_aux_lemma => kernel_rfl
  · as_aux_lemma => kernel_rfl
  · as_aux_lemma => kernel_rfl
  · as_aux_lemma => kernel_rfl
  · as_aux_lemma => kernel_rfl
  · as_aux_lemma => kernel_rfl
  · as_aux_lemma => kernel_rfl
  · as_aux_lemma => kernel_rfl
end Go.Proofs.YthdolmofeeniaaaGreatDoor.blockingHashes
end
section
/- The law BlockingHashes, walked: for every list of numbers it returns true and leaves what was there. -/
set_option linter.unusedSimpArgs false
set_option linter.unusedVariables false
set_option maxRecDepth 100000
namespace Go.Proofs.YthdolmofeeniaaaGreatDoor
open Go.RowKit Cal
attribute [local go_sem] toList_mk mk_size bytes_append
theorem oneH : ∀ x : List UInt8, ∀ u ∈ encS x, u.oneCell' = true := by intro x u hu; simp [encS] at hu; subst hu; rfl
/-- the hash of a record that has all parts -/
theorem hash_parts {k : Int × Int} {i : Nat} {L : List (List UInt8)} (h : (bhashN k i L).2 = true) : (bhashN k i L).1 = partsP (deriveP k.1 k.2 (blkLabel (Lib.decDigits i))).1 (deriveP k.1 k.2 (blkLabel (Lib.decDigits i))).2 L := by
  unfold bhashN at h ⊢
  split at h
  · cases h
  · next h1 => rw [if_neg h1]
set_option maxHeartbeats 16000000 in
theorem bhashes_walk (a : Option Addr) (n cap : Nat) (zs : List Int) (w : World) (hr : IsRow .i64 w a n cap zs) :
    Calls Tryz.prog 3 #[.slice a n cap] w fun e w' => e = .returned (.bool true) ∧ Below w.heap.size w w' := by
  by_cases hn : n ≤ 400
  · have hd : decide (n ≤ 400) = true := by simpa using hn
    have HR := Lib.hid hr; clear hr
    go_enter Tryz.func3, Tryz.ntmps3
    go_wp2_with fail
    refine (awake_b _).mono ?_; rintro e w1 ⟨rfl, hb1⟩
    go_wp2_with fail
    refine (few_any a n cap _).mono ?_; rintro e w' ⟨rfl, rfl⟩
    go_wp2_with fail
    refine (new_any a n cap _).mono ?_; rintro e w' ⟨rfl, rfl⟩
    have Hdk := Lib.hid (deck_law (cap := cap) hn HR.out hb1)
    have HB1 := Lib.hid (hb1.alloc hb1.size (.cells #[.slice a n cap, .int .i64 0, .int .u64 11400714819323198485] 106))
    have zB1 := hb1.size
    clear hb1 HR hd
    go_wp2_with fail
    refine (schema_deal _ _ Hdk.out).mono ?_
    rintro e w2 ⟨vf, vt, vn, vs, s, rfl, hs, hsd, mv⟩
    obtain ⟨Wd, hWd⟩ : ∃ Wd : World, w1.alloc (.cells #[.slice a n cap, .int .i64 0, .int .u64 11400714819323198485] 106) = Wd := ⟨_, rfl⟩
    rw [hWd] at mv hs HB1
    obtain ⟨D, hD⟩ : ∃ D, w1.heap.size = D := ⟨_, rfl⟩
    have zWd : Wd.heap.size = D + 1 := by rw [← hWd, ← hD]; simp
    rw [hD] at mv zB1 ⊢
    obtain ⟨af, cf, rfl⟩ := hs.1.slice
    obtain ⟨at', ct, rfl⟩ := hs.2.1.slice
    obtain ⟨an, cn, rfl⟩ := hs.2.2.1.slice
    obtain ⟨as', cs, rfl⟩ := hs.2.2.2.slice
    have zD := mv.deck.lt
    have hlen5 := (check_fields hsd.check).1.2
    have hlen1 := hsd.some
    have hlen1000 : s.fields.length ≤ 1000 := by omega
    have HL1000 := Lib.hid hlen1000
    obtain ⟨N, hN⟩ : ∃ N, s.fields.length = N := ⟨_, rfl⟩
    rw [hN] at hlen5 hlen1 hs ⊢
    have M2 := Lib.hid mv; have HS := Lib.hid hs; have HSD := Lib.hid hsd; have HNN := Lib.hid hN
    clear mv hs hsd hWd hD Hdk hN hlen1000
    go_wp2_with fail
    refine wp_calls_world (fun W3 hW3 => ?_)
    have hb3 : Below w2.heap.size w2 W3 := by rw [hW3]; exact (Below.refl w2.heap.size w2).alloc (Nat.le_refl _) _
    have hs3 : W3.heap[w2.heap.size]? = some (.cells #[.slice af N cf, .slice at' s.rules.titles.length ct, .slice an s.rules.nicks.length cn, .slice as' s.rules.streets.length cs] 33 (0, 0)) := by rw [hW3]; exact blk_new rfl
    have M3 := Lib.hid (M2.out.below hb3); have HS3 := Lib.hid hs3; have HSA := Lib.hid (HS.out.below hb3)
    have z23 := M2.out.size
    have hSne : ∀ b, Wd.heap.size ≤ b → b ≠ D := fun b h => by omega
    have HNe := Lib.hid hSne
    clear hb3 hs3 HS hW3 M2 hSne
    have hkd := keys_deal D (fun b => Wd.heap.size ≤ b) (.slice af N cf) (.slice at' s.rules.titles.length ct) (.slice an s.rules.nicks.length cn) (.slice as' s.rules.streets.length cs) s 4 W3 M3.out.deck HSA.out HNe.out HSD.out (by decide)
    refine hkd.mono ?_
    rintro e w4 ⟨kv, Ks, rfl, hkv, hK3, hKok, mv⟩
    obtain ⟨ak, ck, rfl⟩ := hkv.slice
    have HKO := Lib.hid (show KeysOk s.fields Ks from ⟨by omega, hKok⟩)
    have M4 := Lib.hid (M3.out.trans mv)
    have HS4 := Lib.hid (mv.blk (k := w2.heap.size) (by omega) HS3.out)
    have HSA4 := Lib.hid (HSA.out.moved HNe.out mv)
    have HKV4 := Lib.hid (hkv.move (T := fun b => Wd.heap.size ≤ b) (w' := w4) (Nat.le_refl _) fun b hb hs => ⟨rfl, by have h1 := M3.out.size; have hs' : W3.heap.size ≤ b := hs; show Wd.heap.size ≤ b; omega⟩)
    clear hkv hKok mv M3 HS3 HSA hkd
    have KA := Lib.hid (show LsAt D Wd w2.heap.size (fun b => Wd.heap.size ≤ b) (.slice af N cf) (.slice at' s.rules.titles.length ct) (.slice an s.rules.nicks.length cn) (.slice as' s.rules.streets.length cs) s (.slice ak Ks.length ck) Ks w4 from
      ⟨M4.out, HS4.out, HSA4.out, HKV4.out, HNe.out, by omega⟩)
    obtain ⟨p0, p1, p2, p3⟩ := cellsS KA.out.b
    have mD : Moved D w4 w4.drew := (Moved.start KA.out.m.deck).drew
    have zW4 := KA.out.m.size
    clear M4 HS4 HSA4 HKV4
    go_wp2_with fail
    go_cut [6, 7] (fun s6 s7 wx => ∃ (ka ra : Nat) (sr : Value) (k : Int × Int) (r : RecL), s6 = .pointer (some ⟨ka, 0, none⟩) ∧ s7 = .pointer (some ⟨ra, 0, none⟩) ∧ wx.heap[ka]? = some (.cells #[.int .u64 k.1, .int .u64 k.2] 39 (0, 0)) ∧ wx.heap[ra]? = some (.cells #[.int .i64 r.id, .int .i64 r.ver, sr] 42 (0, 0)) ∧ Vec wx (fun b => D < b ∧ b ≠ ka ∧ b ≠ ra) 1 encS sr r.vals ∧ Hid (checkN s r = 0 ∧ ∀ x ∈ r.vals, x.length ≤ 64) ∧ Moved D w4 wx ∧ w4.heap.size ≤ ka ∧ w4.heap.size ≤ ra ∧ ka ≠ ra)
    case first =>
      have zW5 := KA.out.m.deck.lt
      refine wp_region_noPanic ?_
      refine wp_region_held_drew (S := (fun w' => w'.cell? ⟨w2.heap.size, 0, none⟩ = some (.slice af N cf) ∧ w'.cell? ⟨w2.heap.size, 1, none⟩ = some (.slice at' s.rules.titles.length ct) ∧ w'.cell? ⟨w2.heap.size, 2, none⟩ = some (.slice an s.rules.nicks.length cn) ∧ w'.cell? ⟨w2.heap.size, 3, none⟩ = some (.slice as' s.rules.streets.length cs))) (by kernel_rfl) (⟨p0, p1, p2, p3⟩) (fun hHeld => ?_)
      refine wpAnyH_take (i := 0) (v := ?_) rfl (by kernel_rfl) (by kernel_rfl) (by kernel_rfl) (fun _ _ _ h => h) (Or.inl ⟨by rfl, ?_⟩) (by assumption) ?_
      rotate_left 1
      · (intro wS hSw; (try dsimp only at hSw); go_simp; try with_reducible rfl)
      try simp only [List.getElem_toArray, List.getElem_cons_zero, List.getElem_cons_succ, Act.put, List.setIfInBounds_toArray, List.set_cons_zero, List.set_cons_succ]
      refine wpAnyH_take (i := 2) (v := ?_) rfl (by kernel_rfl) (by kernel_rfl) (by kernel_rfl) (fun _ _ _ h => h) (Or.inl ⟨by rfl, ?_⟩) (by assumption) ?_
      rotate_left 1
      · (intro wS hSw; (try dsimp only at hSw); go_simp; try with_reducible rfl)
      try simp only [List.getElem_toArray, List.getElem_cons_zero, List.getElem_cons_succ, Act.put, List.setIfInBounds_toArray, List.set_cons_zero, List.set_cons_succ]
      refine wpAnyH_take (i := 3) (v := ?_) rfl (by kernel_rfl) (by kernel_rfl) (by kernel_rfl) (fun _ _ _ h => h) (Or.inl ⟨by rfl, ?_⟩) (by assumption) ?_
      rotate_left 1
      · (intro wS hSw; (try dsimp only at hSw); go_simp; try with_reducible rfl)
      try simp only [List.getElem_toArray, List.getElem_cons_zero, List.getElem_cons_succ, Act.put, List.setIfInBounds_toArray, List.set_cons_zero, List.set_cons_succ]
      refine wpAnyH_ready (rs := [1, 5, 6]) (by kernel_rfl) (by simp) ?_
      refine AllReadyH.cons rfl (fun K hK => ?_) (AllReadyH.cons rfl (fun K hK => ?_) (AllReadyH.cons rfl (fun K hK => ?_) (AllReadyH.nil)))
      focus
        go_simp
        refine (key_deal D _ (KA.out.moved mD).m.deck).mono ?_
        rintro e V1 ⟨k, rfl, mv⟩
        have m1 := mD.trans mv
        clear mv
        refine hK.out _ _ (⟨(cellsS (KA.out.moved (m1)).b).1, (cellsS (KA.out.moved (m1)).b).2.1, (cellsS (KA.out.moved (m1)).b).2.2.1, (cellsS (KA.out.moved (m1)).b).2.2.2⟩) (fun hHeld => ?_)
        clear hK K
        try simp only [List.getElem_toArray, List.getElem_cons_zero, List.getElem_cons_succ, Act.put, List.setIfInBounds_toArray, List.set_cons_zero, List.set_cons_succ]
        refine wpAnyH_ready (rs := [4, 5, 6]) (by kernel_rfl) (by simp) ?_
        refine AllReadyH.cons rfl (fun K hK => ?_) (AllReadyH.cons rfl (fun K hK => ?_) (AllReadyH.cons rfl (fun K hK => ?_) (AllReadyH.nil)))
        focus
          go_simp
          refine (record_deal D (fun b => Wd.heap.size ≤ b) _ _ _ _ s 3 _ (KA.out.moved m1).m.deck (KA.out.moved m1).s HNe.out HSD.out (by decide) (by decide)).mono ?_
          rintro e V2 ⟨_, r, rfl, ⟨sr, rfl, hv⟩, hi, hc, hsh, mv⟩
          have m2 := m1.trans mv
          have hv := hv.move (S' := fun b => D < b) (w' := V2) (Nat.le_refl _) fun b hb' hs => ⟨rfl, by have h1 := m1.size; have hs' := hs; omega⟩
          obtain ⟨a1, c1, es⟩ := hv.slice; subst es
          have HC := Lib.hid (show checkN s r = 0 ∧ ∀ x ∈ r.vals, x.length ≤ 64 from ⟨hc, hsh⟩); clear hc hsh mv hi
          refine hK.out _ _ (⟨(cellsS (KA.out.moved (m2)).b).1, (cellsS (KA.out.moved (m2)).b).2.1, (cellsS (KA.out.moved (m2)).b).2.2.1, (cellsS (KA.out.moved (m2)).b).2.2.2⟩) (fun hHeld => ?_)
          clear hK K
          try simp only [List.getElem_toArray, List.getElem_cons_zero, List.getElem_cons_succ, Act.put, List.setIfInBounds_toArray, List.set_cons_zero, List.set_cons_succ]
          refine wpAnyH_ready (rs := [5, 6]) (by kernel_rfl) (by simp) ?_
          refine AllReadyH.cons rfl (fun K hK => ?_) (AllReadyH.cons rfl (fun K hK => ?_) (AllReadyH.nil))
          focus
            go_simp
            refine hK.out _ _ (⟨(cellsS (KA.out.moved (m2.alloc (.cells #[.int .u64 0, .int .u64 0] 39))).b).1, (cellsS (KA.out.moved (m2.alloc (.cells #[.int .u64 0, .int .u64 0] 39))).b).2.1, (cellsS (KA.out.moved (m2.alloc (.cells #[.int .u64 0, .int .u64 0] 39))).b).2.2.1, (cellsS (KA.out.moved (m2.alloc (.cells #[.int .u64 0, .int .u64 0] 39))).b).2.2.2⟩) (fun hHeld => ?_)
            clear hK K
            try simp only [List.getElem_toArray, List.getElem_cons_zero, List.getElem_cons_succ, Act.put, List.setIfInBounds_toArray, List.set_cons_zero, List.set_cons_succ]
            refine wph_name (fun V3 hV => ?_)
            have m3 : Moved D w4 V3 := by rw [hV]; exact m2.alloc (.cells #[.int .u64 0, .int .u64 0] 39)
            have gA : V3.heap[V2.heap.size]? = some (.cells #[.int .u64 0, .int .u64 0] 39 (0, 0)) := by rw [hV]; exact blk_new rfl
            have hrA : w4.heap.size ≤ V2.heap.size := m2.size
            have hv := hv.move (S' := fun b => D < b ∧ b ≠ V2.heap.size) (w' := V3) (by rw [hV]; simp) fun b hb' hs => ⟨by rw [hV]; exact heap_alloc_old _ _ hb', by have hs' := hs; omega⟩
            clear hV hHeld
            have hHeld : V3.cell? ⟨w2.heap.size, 0, none⟩ = some (.slice af N cf) ∧ V3.cell? ⟨w2.heap.size, 1, none⟩ = some (.slice at' s.rules.titles.length ct) ∧ V3.cell? ⟨w2.heap.size, 2, none⟩ = some (.slice an s.rules.nicks.length cn) ∧ V3.cell? ⟨w2.heap.size, 3, none⟩ = some (.slice as' s.rules.streets.length cs) := ⟨(cellsS (KA.out.moved (m3)).b).1, (cellsS (KA.out.moved (m3)).b).2.1, (cellsS (KA.out.moved (m3)).b).2.2.1, (cellsS (KA.out.moved (m3)).b).2.2.2⟩
            refine wpAnyH_ready (rs := [6]) (by kernel_rfl) (by simp) ?_
            refine AllReadyH.cons rfl (fun K hK => ?_) (AllReadyH.nil)
            go_simp
            refine hK.out _ _ (⟨(cellsS (KA.out.moved (m3.alloc (.cells #[.int .i64 0, .int .i64 0, .slice none 0 0] 42))).b).1, (cellsS (KA.out.moved (m3.alloc (.cells #[.int .i64 0, .int .i64 0, .slice none 0 0] 42))).b).2.1, (cellsS (KA.out.moved (m3.alloc (.cells #[.int .i64 0, .int .i64 0, .slice none 0 0] 42))).b).2.2.1, (cellsS (KA.out.moved (m3.alloc (.cells #[.int .i64 0, .int .i64 0, .slice none 0 0] 42))).b).2.2.2⟩) (fun hHeld => ?_)
            clear hK K
            try simp only [List.getElem_toArray, List.getElem_cons_zero, List.getElem_cons_succ, Act.put, List.setIfInBounds_toArray, List.set_cons_zero, List.set_cons_succ]
            refine wph_name (fun V4 hV => ?_)
            have m4 : Moved D w4 V4 := by rw [hV]; exact m3.alloc (.cells #[.int .i64 0, .int .i64 0, .slice none 0 0] 42)
            have hltgA := lt_of_blk gA; have gA : V4.heap[V2.heap.size]? = some (.cells #[.int .u64 0, .int .u64 0] 39 (0, 0)) := by rw [hV]; exact blk_old gA
            have gB : V4.heap[V3.heap.size]? = some (.cells #[.int .i64 0, .int .i64 0, .slice none 0 0] 42 (0, 0)) := by rw [hV]; exact blk_new rfl
            have hrB : w4.heap.size ≤ V3.heap.size := m3.size
            have hab : V2.heap.size ≠ V3.heap.size := by omega
            have hv := hv.move (S' := fun b => D < b ∧ b ≠ V2.heap.size ∧ b ≠ V3.heap.size) (w' := V4) (by rw [hV]; simp) fun b hb' hs => ⟨by rw [hV]; exact heap_alloc_old _ _ hb', by have hs' := hs; omega⟩
            clear hV hHeld
            have hHeld : V4.cell? ⟨w2.heap.size, 0, none⟩ = some (.slice af N cf) ∧ V4.cell? ⟨w2.heap.size, 1, none⟩ = some (.slice at' s.rules.titles.length ct) ∧ V4.cell? ⟨w2.heap.size, 2, none⟩ = some (.slice an s.rules.nicks.length cn) ∧ V4.cell? ⟨w2.heap.size, 3, none⟩ = some (.slice as' s.rules.streets.length cs) := ⟨(cellsS (KA.out.moved (m4)).b).1, (cellsS (KA.out.moved (m4)).b).2.1, (cellsS (KA.out.moved (m4)).b).2.2.1, (cellsS (KA.out.moved (m4)).b).2.2.2⟩
          rotate_left 1
          focus
            go_simp
            refine hK.out _ _ (⟨(cellsS (KA.out.moved (m2.alloc (.cells #[.int .i64 0, .int .i64 0, .slice none 0 0] 42))).b).1, (cellsS (KA.out.moved (m2.alloc (.cells #[.int .i64 0, .int .i64 0, .slice none 0 0] 42))).b).2.1, (cellsS (KA.out.moved (m2.alloc (.cells #[.int .i64 0, .int .i64 0, .slice none 0 0] 42))).b).2.2.1, (cellsS (KA.out.moved (m2.alloc (.cells #[.int .i64 0, .int .i64 0, .slice none 0 0] 42))).b).2.2.2⟩) (fun hHeld => ?_)
            clear hK K
            try simp only [List.getElem_toArray, List.getElem_cons_zero, List.getElem_cons_succ, Act.put, List.setIfInBounds_toArray, List.set_cons_zero, List.set_cons_succ]
            refine wph_name (fun V3 hV => ?_)
            have m3 : Moved D w4 V3 := by rw [hV]; exact m2.alloc (.cells #[.int .i64 0, .int .i64 0, .slice none 0 0] 42)
            have gB : V3.heap[V2.heap.size]? = some (.cells #[.int .i64 0, .int .i64 0, .slice none 0 0] 42 (0, 0)) := by rw [hV]; exact blk_new rfl
            have hrB : w4.heap.size ≤ V2.heap.size := m2.size
            have hv := hv.move (S' := fun b => D < b ∧ b ≠ V2.heap.size) (w' := V3) (by rw [hV]; simp) fun b hb' hs => ⟨by rw [hV]; exact heap_alloc_old _ _ hb', by have hs' := hs; omega⟩
            clear hV hHeld
            have hHeld : V3.cell? ⟨w2.heap.size, 0, none⟩ = some (.slice af N cf) ∧ V3.cell? ⟨w2.heap.size, 1, none⟩ = some (.slice at' s.rules.titles.length ct) ∧ V3.cell? ⟨w2.heap.size, 2, none⟩ = some (.slice an s.rules.nicks.length cn) ∧ V3.cell? ⟨w2.heap.size, 3, none⟩ = some (.slice as' s.rules.streets.length cs) := ⟨(cellsS (KA.out.moved (m3)).b).1, (cellsS (KA.out.moved (m3)).b).2.1, (cellsS (KA.out.moved (m3)).b).2.2.1, (cellsS (KA.out.moved (m3)).b).2.2.2⟩
            refine wpAnyH_ready (rs := [5]) (by kernel_rfl) (by simp) ?_
            refine AllReadyH.cons rfl (fun K hK => ?_) (AllReadyH.nil)
            go_simp
            refine hK.out _ _ (⟨(cellsS (KA.out.moved (m3.alloc (.cells #[.int .u64 0, .int .u64 0] 39))).b).1, (cellsS (KA.out.moved (m3.alloc (.cells #[.int .u64 0, .int .u64 0] 39))).b).2.1, (cellsS (KA.out.moved (m3.alloc (.cells #[.int .u64 0, .int .u64 0] 39))).b).2.2.1, (cellsS (KA.out.moved (m3.alloc (.cells #[.int .u64 0, .int .u64 0] 39))).b).2.2.2⟩) (fun hHeld => ?_)
            clear hK K
            try simp only [List.getElem_toArray, List.getElem_cons_zero, List.getElem_cons_succ, Act.put, List.setIfInBounds_toArray, List.set_cons_zero, List.set_cons_succ]
            refine wph_name (fun V4 hV => ?_)
            have m4 : Moved D w4 V4 := by rw [hV]; exact m3.alloc (.cells #[.int .u64 0, .int .u64 0] 39)
            have hltgB := lt_of_blk gB; have gB : V4.heap[V2.heap.size]? = some (.cells #[.int .i64 0, .int .i64 0, .slice none 0 0] 42 (0, 0)) := by rw [hV]; exact blk_old gB
            have gA : V4.heap[V3.heap.size]? = some (.cells #[.int .u64 0, .int .u64 0] 39 (0, 0)) := by rw [hV]; exact blk_new rfl
            have hrA : w4.heap.size ≤ V3.heap.size := m3.size
            have hab : V3.heap.size ≠ V2.heap.size := by omega
            have hv := hv.move (S' := fun b => D < b ∧ b ≠ V3.heap.size ∧ b ≠ V2.heap.size) (w' := V4) (by rw [hV]; simp) fun b hb' hs => ⟨by rw [hV]; exact heap_alloc_old _ _ hb', by have hs' := hs; omega⟩
            clear hV hHeld
            have hHeld : V4.cell? ⟨w2.heap.size, 0, none⟩ = some (.slice af N cf) ∧ V4.cell? ⟨w2.heap.size, 1, none⟩ = some (.slice at' s.rules.titles.length ct) ∧ V4.cell? ⟨w2.heap.size, 2, none⟩ = some (.slice an s.rules.nicks.length cn) ∧ V4.cell? ⟨w2.heap.size, 3, none⟩ = some (.slice as' s.rules.streets.length cs) := ⟨(cellsS (KA.out.moved (m4)).b).1, (cellsS (KA.out.moved (m4)).b).2.1, (cellsS (KA.out.moved (m4)).b).2.2.1, (cellsS (KA.out.moved (m4)).b).2.2.2⟩
        rotate_left 2
        focus
          go_simp
          refine hK.out _ _ (⟨(cellsS (KA.out.moved (m1.alloc (.cells #[.int .u64 0, .int .u64 0] 39))).b).1, (cellsS (KA.out.moved (m1.alloc (.cells #[.int .u64 0, .int .u64 0] 39))).b).2.1, (cellsS (KA.out.moved (m1.alloc (.cells #[.int .u64 0, .int .u64 0] 39))).b).2.2.1, (cellsS (KA.out.moved (m1.alloc (.cells #[.int .u64 0, .int .u64 0] 39))).b).2.2.2⟩) (fun hHeld => ?_)
          clear hK K
          try simp only [List.getElem_toArray, List.getElem_cons_zero, List.getElem_cons_succ, Act.put, List.setIfInBounds_toArray, List.set_cons_zero, List.set_cons_succ]
          refine wph_name (fun V2 hV => ?_)
          have m2 : Moved D w4 V2 := by rw [hV]; exact m1.alloc (.cells #[.int .u64 0, .int .u64 0] 39)
          have gA : V2.heap[V1.heap.size]? = some (.cells #[.int .u64 0, .int .u64 0] 39 (0, 0)) := by rw [hV]; exact blk_new rfl
          have hrA : w4.heap.size ≤ V1.heap.size := m1.size
          clear hV hHeld
          have hHeld : V2.cell? ⟨w2.heap.size, 0, none⟩ = some (.slice af N cf) ∧ V2.cell? ⟨w2.heap.size, 1, none⟩ = some (.slice at' s.rules.titles.length ct) ∧ V2.cell? ⟨w2.heap.size, 2, none⟩ = some (.slice an s.rules.nicks.length cn) ∧ V2.cell? ⟨w2.heap.size, 3, none⟩ = some (.slice as' s.rules.streets.length cs) := ⟨(cellsS (KA.out.moved (m2)).b).1, (cellsS (KA.out.moved (m2)).b).2.1, (cellsS (KA.out.moved (m2)).b).2.2.1, (cellsS (KA.out.moved (m2)).b).2.2.2⟩
          refine wpAnyH_ready (rs := [4, 6]) (by kernel_rfl) (by simp) ?_
          refine AllReadyH.cons rfl (fun K hK => ?_) (AllReadyH.cons rfl (fun K hK => ?_) (AllReadyH.nil))
          focus
            go_simp
            refine (record_deal D (fun b => Wd.heap.size ≤ b) _ _ _ _ s 3 _ (KA.out.moved m2).m.deck (KA.out.moved m2).s HNe.out HSD.out (by decide) (by decide)).mono ?_
            rintro e V3 ⟨_, r, rfl, ⟨sr, rfl, hv⟩, hi, hc, hsh, mv⟩
            have m3 := m2.trans mv
            have hltgA := lt_of_blk gA; have gA := mv.blk (by omega) gA
            have hv := hv.move (S' := fun b => D < b ∧ b ≠ V1.heap.size) (w' := V3) (Nat.le_refl _) fun b hb' hs => ⟨rfl, by have h1 := m2.size; have hs' := hs; omega⟩
            obtain ⟨a1, c1, es⟩ := hv.slice; subst es
            have HC := Lib.hid (show checkN s r = 0 ∧ ∀ x ∈ r.vals, x.length ≤ 64 from ⟨hc, hsh⟩); clear hc hsh mv hi
            refine hK.out _ _ (⟨(cellsS (KA.out.moved (m3)).b).1, (cellsS (KA.out.moved (m3)).b).2.1, (cellsS (KA.out.moved (m3)).b).2.2.1, (cellsS (KA.out.moved (m3)).b).2.2.2⟩) (fun hHeld => ?_)
            clear hK K
            try simp only [List.getElem_toArray, List.getElem_cons_zero, List.getElem_cons_succ, Act.put, List.setIfInBounds_toArray, List.set_cons_zero, List.set_cons_succ]
            refine wpAnyH_ready (rs := [6]) (by kernel_rfl) (by simp) ?_
            refine AllReadyH.cons rfl (fun K hK => ?_) (AllReadyH.nil)
            go_simp
            refine hK.out _ _ (⟨(cellsS (KA.out.moved (m3.alloc (.cells #[.int .i64 0, .int .i64 0, .slice none 0 0] 42))).b).1, (cellsS (KA.out.moved (m3.alloc (.cells #[.int .i64 0, .int .i64 0, .slice none 0 0] 42))).b).2.1, (cellsS (KA.out.moved (m3.alloc (.cells #[.int .i64 0, .int .i64 0, .slice none 0 0] 42))).b).2.2.1, (cellsS (KA.out.moved (m3.alloc (.cells #[.int .i64 0, .int .i64 0, .slice none 0 0] 42))).b).2.2.2⟩) (fun hHeld => ?_)
            clear hK K
            try simp only [List.getElem_toArray, List.getElem_cons_zero, List.getElem_cons_succ, Act.put, List.setIfInBounds_toArray, List.set_cons_zero, List.set_cons_succ]
            refine wph_name (fun V4 hV => ?_)
            have m4 : Moved D w4 V4 := by rw [hV]; exact m3.alloc (.cells #[.int .i64 0, .int .i64 0, .slice none 0 0] 42)
            have hltgA := lt_of_blk gA; have gA : V4.heap[V1.heap.size]? = some (.cells #[.int .u64 0, .int .u64 0] 39 (0, 0)) := by rw [hV]; exact blk_old gA
            have gB : V4.heap[V3.heap.size]? = some (.cells #[.int .i64 0, .int .i64 0, .slice none 0 0] 42 (0, 0)) := by rw [hV]; exact blk_new rfl
            have hrB : w4.heap.size ≤ V3.heap.size := m3.size
            have hab : V1.heap.size ≠ V3.heap.size := by omega
            have hv := hv.move (S' := fun b => D < b ∧ b ≠ V1.heap.size ∧ b ≠ V3.heap.size) (w' := V4) (by rw [hV]; simp) fun b hb' hs => ⟨by rw [hV]; exact heap_alloc_old _ _ hb', by have hs' := hs; omega⟩
            clear hV hHeld
            have hHeld : V4.cell? ⟨w2.heap.size, 0, none⟩ = some (.slice af N cf) ∧ V4.cell? ⟨w2.heap.size, 1, none⟩ = some (.slice at' s.rules.titles.length ct) ∧ V4.cell? ⟨w2.heap.size, 2, none⟩ = some (.slice an s.rules.nicks.length cn) ∧ V4.cell? ⟨w2.heap.size, 3, none⟩ = some (.slice as' s.rules.streets.length cs) := ⟨(cellsS (KA.out.moved (m4)).b).1, (cellsS (KA.out.moved (m4)).b).2.1, (cellsS (KA.out.moved (m4)).b).2.2.1, (cellsS (KA.out.moved (m4)).b).2.2.2⟩
          rotate_left 1
          focus
            go_simp
            refine hK.out _ _ (⟨(cellsS (KA.out.moved (m2.alloc (.cells #[.int .i64 0, .int .i64 0, .slice none 0 0] 42))).b).1, (cellsS (KA.out.moved (m2.alloc (.cells #[.int .i64 0, .int .i64 0, .slice none 0 0] 42))).b).2.1, (cellsS (KA.out.moved (m2.alloc (.cells #[.int .i64 0, .int .i64 0, .slice none 0 0] 42))).b).2.2.1, (cellsS (KA.out.moved (m2.alloc (.cells #[.int .i64 0, .int .i64 0, .slice none 0 0] 42))).b).2.2.2⟩) (fun hHeld => ?_)
            clear hK K
            try simp only [List.getElem_toArray, List.getElem_cons_zero, List.getElem_cons_succ, Act.put, List.setIfInBounds_toArray, List.set_cons_zero, List.set_cons_succ]
            refine wph_name (fun V3 hV => ?_)
            have m3 : Moved D w4 V3 := by rw [hV]; exact m2.alloc (.cells #[.int .i64 0, .int .i64 0, .slice none 0 0] 42)
            have hltgA := lt_of_blk gA; have gA : V3.heap[V1.heap.size]? = some (.cells #[.int .u64 0, .int .u64 0] 39 (0, 0)) := by rw [hV]; exact blk_old gA
            have gB : V3.heap[V2.heap.size]? = some (.cells #[.int .i64 0, .int .i64 0, .slice none 0 0] 42 (0, 0)) := by rw [hV]; exact blk_new rfl
            have hrB : w4.heap.size ≤ V2.heap.size := m2.size
            have hab : V1.heap.size ≠ V2.heap.size := by omega
            clear hV hHeld
            have hHeld : V3.cell? ⟨w2.heap.size, 0, none⟩ = some (.slice af N cf) ∧ V3.cell? ⟨w2.heap.size, 1, none⟩ = some (.slice at' s.rules.titles.length ct) ∧ V3.cell? ⟨w2.heap.size, 2, none⟩ = some (.slice an s.rules.nicks.length cn) ∧ V3.cell? ⟨w2.heap.size, 3, none⟩ = some (.slice as' s.rules.streets.length cs) := ⟨(cellsS (KA.out.moved (m3)).b).1, (cellsS (KA.out.moved (m3)).b).2.1, (cellsS (KA.out.moved (m3)).b).2.2.1, (cellsS (KA.out.moved (m3)).b).2.2.2⟩
            refine wpAnyH_ready (rs := [4]) (by kernel_rfl) (by simp) ?_
            refine AllReadyH.cons rfl (fun K hK => ?_) (AllReadyH.nil)
            go_simp
            refine (record_deal D (fun b => Wd.heap.size ≤ b) _ _ _ _ s 3 _ (KA.out.moved m3).m.deck (KA.out.moved m3).s HNe.out HSD.out (by decide) (by decide)).mono ?_
            rintro e V4 ⟨_, r, rfl, ⟨sr, rfl, hv⟩, hi, hc, hsh, mv⟩
            have m4 := m3.trans mv
            have hltgA := lt_of_blk gA; have gA := mv.blk (by omega) gA
            have hltgB := lt_of_blk gB; have gB := mv.blk (by omega) gB
            have hv := hv.move (S' := fun b => D < b ∧ b ≠ V1.heap.size ∧ b ≠ V2.heap.size) (w' := V4) (Nat.le_refl _) fun b hb' hs => ⟨rfl, by have h1 := m3.size; have hs' := hs; omega⟩
            obtain ⟨a1, c1, es⟩ := hv.slice; subst es
            have HC := Lib.hid (show checkN s r = 0 ∧ ∀ x ∈ r.vals, x.length ≤ 64 from ⟨hc, hsh⟩); clear hc hsh mv hi
            refine hK.out _ _ (⟨(cellsS (KA.out.moved (m4)).b).1, (cellsS (KA.out.moved (m4)).b).2.1, (cellsS (KA.out.moved (m4)).b).2.2.1, (cellsS (KA.out.moved (m4)).b).2.2.2⟩) (fun hHeld => ?_)
            clear hK K
            try simp only [List.getElem_toArray, List.getElem_cons_zero, List.getElem_cons_succ, Act.put, List.setIfInBounds_toArray, List.set_cons_zero, List.set_cons_succ]
        rotate_left 2
        focus
          go_simp
          refine hK.out _ _ (⟨(cellsS (KA.out.moved (m1.alloc (.cells #[.int .i64 0, .int .i64 0, .slice none 0 0] 42))).b).1, (cellsS (KA.out.moved (m1.alloc (.cells #[.int .i64 0, .int .i64 0, .slice none 0 0] 42))).b).2.1, (cellsS (KA.out.moved (m1.alloc (.cells #[.int .i64 0, .int .i64 0, .slice none 0 0] 42))).b).2.2.1, (cellsS (KA.out.moved (m1.alloc (.cells #[.int .i64 0, .int .i64 0, .slice none 0 0] 42))).b).2.2.2⟩) (fun hHeld => ?_)
          clear hK K
          try simp only [List.getElem_toArray, List.getElem_cons_zero, List.getElem_cons_succ, Act.put, List.setIfInBounds_toArray, List.set_cons_zero, List.set_cons_succ]
          refine wph_name (fun V2 hV => ?_)
          have m2 : Moved D w4 V2 := by rw [hV]; exact m1.alloc (.cells #[.int .i64 0, .int .i64 0, .slice none 0 0] 42)
          have gB : V2.heap[V1.heap.size]? = some (.cells #[.int .i64 0, .int .i64 0, .slice none 0 0] 42 (0, 0)) := by rw [hV]; exact blk_new rfl
          have hrB : w4.heap.size ≤ V1.heap.size := m1.size
          clear hV hHeld
          have hHeld : V2.cell? ⟨w2.heap.size, 0, none⟩ = some (.slice af N cf) ∧ V2.cell? ⟨w2.heap.size, 1, none⟩ = some (.slice at' s.rules.titles.length ct) ∧ V2.cell? ⟨w2.heap.size, 2, none⟩ = some (.slice an s.rules.nicks.length cn) ∧ V2.cell? ⟨w2.heap.size, 3, none⟩ = some (.slice as' s.rules.streets.length cs) := ⟨(cellsS (KA.out.moved (m2)).b).1, (cellsS (KA.out.moved (m2)).b).2.1, (cellsS (KA.out.moved (m2)).b).2.2.1, (cellsS (KA.out.moved (m2)).b).2.2.2⟩
          refine wpAnyH_ready (rs := [4, 5]) (by kernel_rfl) (by simp) ?_
          refine AllReadyH.cons rfl (fun K hK => ?_) (AllReadyH.cons rfl (fun K hK => ?_) (AllReadyH.nil))
          focus
            go_simp
            refine (record_deal D (fun b => Wd.heap.size ≤ b) _ _ _ _ s 3 _ (KA.out.moved m2).m.deck (KA.out.moved m2).s HNe.out HSD.out (by decide) (by decide)).mono ?_
            rintro e V3 ⟨_, r, rfl, ⟨sr, rfl, hv⟩, hi, hc, hsh, mv⟩
            have m3 := m2.trans mv
            have hltgB := lt_of_blk gB; have gB := mv.blk (by omega) gB
            have hv := hv.move (S' := fun b => D < b ∧ b ≠ V1.heap.size) (w' := V3) (Nat.le_refl _) fun b hb' hs => ⟨rfl, by have h1 := m2.size; have hs' := hs; omega⟩
            obtain ⟨a1, c1, es⟩ := hv.slice; subst es
            have HC := Lib.hid (show checkN s r = 0 ∧ ∀ x ∈ r.vals, x.length ≤ 64 from ⟨hc, hsh⟩); clear hc hsh mv hi
            refine hK.out _ _ (⟨(cellsS (KA.out.moved (m3)).b).1, (cellsS (KA.out.moved (m3)).b).2.1, (cellsS (KA.out.moved (m3)).b).2.2.1, (cellsS (KA.out.moved (m3)).b).2.2.2⟩) (fun hHeld => ?_)
            clear hK K
            try simp only [List.getElem_toArray, List.getElem_cons_zero, List.getElem_cons_succ, Act.put, List.setIfInBounds_toArray, List.set_cons_zero, List.set_cons_succ]
            refine wpAnyH_ready (rs := [5]) (by kernel_rfl) (by simp) ?_
            refine AllReadyH.cons rfl (fun K hK => ?_) (AllReadyH.nil)
            go_simp
            refine hK.out _ _ (⟨(cellsS (KA.out.moved (m3.alloc (.cells #[.int .u64 0, .int .u64 0] 39))).b).1, (cellsS (KA.out.moved (m3.alloc (.cells #[.int .u64 0, .int .u64 0] 39))).b).2.1, (cellsS (KA.out.moved (m3.alloc (.cells #[.int .u64 0, .int .u64 0] 39))).b).2.2.1, (cellsS (KA.out.moved (m3.alloc (.cells #[.int .u64 0, .int .u64 0] 39))).b).2.2.2⟩) (fun hHeld => ?_)
            clear hK K
            try simp only [List.getElem_toArray, List.getElem_cons_zero, List.getElem_cons_succ, Act.put, List.setIfInBounds_toArray, List.set_cons_zero, List.set_cons_succ]
            refine wph_name (fun V4 hV => ?_)
            have m4 : Moved D w4 V4 := by rw [hV]; exact m3.alloc (.cells #[.int .u64 0, .int .u64 0] 39)
            have hltgB := lt_of_blk gB; have gB : V4.heap[V1.heap.size]? = some (.cells #[.int .i64 0, .int .i64 0, .slice none 0 0] 42 (0, 0)) := by rw [hV]; exact blk_old gB
            have gA : V4.heap[V3.heap.size]? = some (.cells #[.int .u64 0, .int .u64 0] 39 (0, 0)) := by rw [hV]; exact blk_new rfl
            have hrA : w4.heap.size ≤ V3.heap.size := m3.size
            have hab : V3.heap.size ≠ V1.heap.size := by omega
            have hv := hv.move (S' := fun b => D < b ∧ b ≠ V3.heap.size ∧ b ≠ V1.heap.size) (w' := V4) (by rw [hV]; simp) fun b hb' hs => ⟨by rw [hV]; exact heap_alloc_old _ _ hb', by have hs' := hs; omega⟩
            clear hV hHeld
            have hHeld : V4.cell? ⟨w2.heap.size, 0, none⟩ = some (.slice af N cf) ∧ V4.cell? ⟨w2.heap.size, 1, none⟩ = some (.slice at' s.rules.titles.length ct) ∧ V4.cell? ⟨w2.heap.size, 2, none⟩ = some (.slice an s.rules.nicks.length cn) ∧ V4.cell? ⟨w2.heap.size, 3, none⟩ = some (.slice as' s.rules.streets.length cs) := ⟨(cellsS (KA.out.moved (m4)).b).1, (cellsS (KA.out.moved (m4)).b).2.1, (cellsS (KA.out.moved (m4)).b).2.2.1, (cellsS (KA.out.moved (m4)).b).2.2.2⟩
          rotate_left 1
          focus
            go_simp
            refine hK.out _ _ (⟨(cellsS (KA.out.moved (m2.alloc (.cells #[.int .u64 0, .int .u64 0] 39))).b).1, (cellsS (KA.out.moved (m2.alloc (.cells #[.int .u64 0, .int .u64 0] 39))).b).2.1, (cellsS (KA.out.moved (m2.alloc (.cells #[.int .u64 0, .int .u64 0] 39))).b).2.2.1, (cellsS (KA.out.moved (m2.alloc (.cells #[.int .u64 0, .int .u64 0] 39))).b).2.2.2⟩) (fun hHeld => ?_)
            clear hK K
            try simp only [List.getElem_toArray, List.getElem_cons_zero, List.getElem_cons_succ, Act.put, List.setIfInBounds_toArray, List.set_cons_zero, List.set_cons_succ]
            refine wph_name (fun V3 hV => ?_)
            have m3 : Moved D w4 V3 := by rw [hV]; exact m2.alloc (.cells #[.int .u64 0, .int .u64 0] 39)
            have hltgB := lt_of_blk gB; have gB : V3.heap[V1.heap.size]? = some (.cells #[.int .i64 0, .int .i64 0, .slice none 0 0] 42 (0, 0)) := by rw [hV]; exact blk_old gB
            have gA : V3.heap[V2.heap.size]? = some (.cells #[.int .u64 0, .int .u64 0] 39 (0, 0)) := by rw [hV]; exact blk_new rfl
            have hrA : w4.heap.size ≤ V2.heap.size := m2.size
            have hab : V2.heap.size ≠ V1.heap.size := by omega
            clear hV hHeld
            have hHeld : V3.cell? ⟨w2.heap.size, 0, none⟩ = some (.slice af N cf) ∧ V3.cell? ⟨w2.heap.size, 1, none⟩ = some (.slice at' s.rules.titles.length ct) ∧ V3.cell? ⟨w2.heap.size, 2, none⟩ = some (.slice an s.rules.nicks.length cn) ∧ V3.cell? ⟨w2.heap.size, 3, none⟩ = some (.slice as' s.rules.streets.length cs) := ⟨(cellsS (KA.out.moved (m3)).b).1, (cellsS (KA.out.moved (m3)).b).2.1, (cellsS (KA.out.moved (m3)).b).2.2.1, (cellsS (KA.out.moved (m3)).b).2.2.2⟩
            refine wpAnyH_ready (rs := [4]) (by kernel_rfl) (by simp) ?_
            refine AllReadyH.cons rfl (fun K hK => ?_) (AllReadyH.nil)
            go_simp
            refine (record_deal D (fun b => Wd.heap.size ≤ b) _ _ _ _ s 3 _ (KA.out.moved m3).m.deck (KA.out.moved m3).s HNe.out HSD.out (by decide) (by decide)).mono ?_
            rintro e V4 ⟨_, r, rfl, ⟨sr, rfl, hv⟩, hi, hc, hsh, mv⟩
            have m4 := m3.trans mv
            have hltgB := lt_of_blk gB; have gB := mv.blk (by omega) gB
            have hltgA := lt_of_blk gA; have gA := mv.blk (by omega) gA
            have hv := hv.move (S' := fun b => D < b ∧ b ≠ V2.heap.size ∧ b ≠ V1.heap.size) (w' := V4) (Nat.le_refl _) fun b hb' hs => ⟨rfl, by have h1 := m3.size; have hs' := hs; omega⟩
            obtain ⟨a1, c1, es⟩ := hv.slice; subst es
            have HC := Lib.hid (show checkN s r = 0 ∧ ∀ x ∈ r.vals, x.length ≤ 64 from ⟨hc, hsh⟩); clear hc hsh mv hi
            refine hK.out _ _ (⟨(cellsS (KA.out.moved (m4)).b).1, (cellsS (KA.out.moved (m4)).b).2.1, (cellsS (KA.out.moved (m4)).b).2.2.1, (cellsS (KA.out.moved (m4)).b).2.2.2⟩) (fun hHeld => ?_)
            clear hK K
            try simp only [List.getElem_toArray, List.getElem_cons_zero, List.getElem_cons_succ, Act.put, List.setIfInBounds_toArray, List.set_cons_zero, List.set_cons_succ]
      rotate_left 6
      focus
        go_simp
        refine hK.out _ _ (⟨(cellsS (KA.out.moved (mD.alloc (.cells #[.int .u64 0, .int .u64 0] 39))).b).1, (cellsS (KA.out.moved (mD.alloc (.cells #[.int .u64 0, .int .u64 0] 39))).b).2.1, (cellsS (KA.out.moved (mD.alloc (.cells #[.int .u64 0, .int .u64 0] 39))).b).2.2.1, (cellsS (KA.out.moved (mD.alloc (.cells #[.int .u64 0, .int .u64 0] 39))).b).2.2.2⟩) (fun hHeld => ?_)
        clear hK K
        try simp only [List.getElem_toArray, List.getElem_cons_zero, List.getElem_cons_succ, Act.put, List.setIfInBounds_toArray, List.set_cons_zero, List.set_cons_succ]
        refine wph_name (fun V1 hV => ?_)
        have m1 : Moved D w4 V1 := by rw [hV]; exact mD.alloc (.cells #[.int .u64 0, .int .u64 0] 39)
        have gA : V1.heap[w4.heap.size]? = some (.cells #[.int .u64 0, .int .u64 0] 39 (0, 0)) := by rw [hV]; exact blk_new rfl
        have hrA : w4.heap.size ≤ w4.heap.size := mD.size
        clear hV hHeld
        have hHeld : V1.cell? ⟨w2.heap.size, 0, none⟩ = some (.slice af N cf) ∧ V1.cell? ⟨w2.heap.size, 1, none⟩ = some (.slice at' s.rules.titles.length ct) ∧ V1.cell? ⟨w2.heap.size, 2, none⟩ = some (.slice an s.rules.nicks.length cn) ∧ V1.cell? ⟨w2.heap.size, 3, none⟩ = some (.slice as' s.rules.streets.length cs) := ⟨(cellsS (KA.out.moved (m1)).b).1, (cellsS (KA.out.moved (m1)).b).2.1, (cellsS (KA.out.moved (m1)).b).2.2.1, (cellsS (KA.out.moved (m1)).b).2.2.2⟩
        refine wpAnyH_ready (rs := [1, 6]) (by kernel_rfl) (by simp) ?_
        refine AllReadyH.cons rfl (fun K hK => ?_) (AllReadyH.cons rfl (fun K hK => ?_) (AllReadyH.nil))
        focus
          go_simp
          refine (key_deal D _ (KA.out.moved m1).m.deck).mono ?_
          rintro e V2 ⟨k, rfl, mv⟩
          have m2 := m1.trans mv
          have hltgA := lt_of_blk gA; have gA := mv.blk (by omega) gA
          clear mv
          refine hK.out _ _ (⟨(cellsS (KA.out.moved (m2)).b).1, (cellsS (KA.out.moved (m2)).b).2.1, (cellsS (KA.out.moved (m2)).b).2.2.1, (cellsS (KA.out.moved (m2)).b).2.2.2⟩) (fun hHeld => ?_)
          clear hK K
          try simp only [List.getElem_toArray, List.getElem_cons_zero, List.getElem_cons_succ, Act.put, List.setIfInBounds_toArray, List.set_cons_zero, List.set_cons_succ]
          refine wpAnyH_ready (rs := [4, 6]) (by kernel_rfl) (by simp) ?_
          refine AllReadyH.cons rfl (fun K hK => ?_) (AllReadyH.cons rfl (fun K hK => ?_) (AllReadyH.nil))
          focus
            go_simp
            refine (record_deal D (fun b => Wd.heap.size ≤ b) _ _ _ _ s 3 _ (KA.out.moved m2).m.deck (KA.out.moved m2).s HNe.out HSD.out (by decide) (by decide)).mono ?_
            rintro e V3 ⟨_, r, rfl, ⟨sr, rfl, hv⟩, hi, hc, hsh, mv⟩
            have m3 := m2.trans mv
            have hltgA := lt_of_blk gA; have gA := mv.blk (by omega) gA
            have hv := hv.move (S' := fun b => D < b ∧ b ≠ w4.heap.size) (w' := V3) (Nat.le_refl _) fun b hb' hs => ⟨rfl, by have h1 := m2.size; have hs' := hs; omega⟩
            obtain ⟨a1, c1, es⟩ := hv.slice; subst es
            have HC := Lib.hid (show checkN s r = 0 ∧ ∀ x ∈ r.vals, x.length ≤ 64 from ⟨hc, hsh⟩); clear hc hsh mv hi
            refine hK.out _ _ (⟨(cellsS (KA.out.moved (m3)).b).1, (cellsS (KA.out.moved (m3)).b).2.1, (cellsS (KA.out.moved (m3)).b).2.2.1, (cellsS (KA.out.moved (m3)).b).2.2.2⟩) (fun hHeld => ?_)
            clear hK K
            try simp only [List.getElem_toArray, List.getElem_cons_zero, List.getElem_cons_succ, Act.put, List.setIfInBounds_toArray, List.set_cons_zero, List.set_cons_succ]
            refine wpAnyH_ready (rs := [6]) (by kernel_rfl) (by simp) ?_
            refine AllReadyH.cons rfl (fun K hK => ?_) (AllReadyH.nil)
            go_simp
            refine hK.out _ _ (⟨(cellsS (KA.out.moved (m3.alloc (.cells #[.int .i64 0, .int .i64 0, .slice none 0 0] 42))).b).1, (cellsS (KA.out.moved (m3.alloc (.cells #[.int .i64 0, .int .i64 0, .slice none 0 0] 42))).b).2.1, (cellsS (KA.out.moved (m3.alloc (.cells #[.int .i64 0, .int .i64 0, .slice none 0 0] 42))).b).2.2.1, (cellsS (KA.out.moved (m3.alloc (.cells #[.int .i64 0, .int .i64 0, .slice none 0 0] 42))).b).2.2.2⟩) (fun hHeld => ?_)
            clear hK K
            try simp only [List.getElem_toArray, List.getElem_cons_zero, List.getElem_cons_succ, Act.put, List.setIfInBounds_toArray, List.set_cons_zero, List.set_cons_succ]
            refine wph_name (fun V4 hV => ?_)
            have m4 : Moved D w4 V4 := by rw [hV]; exact m3.alloc (.cells #[.int .i64 0, .int .i64 0, .slice none 0 0] 42)
            have hltgA := lt_of_blk gA; have gA : V4.heap[w4.heap.size]? = some (.cells #[.int .u64 0, .int .u64 0] 39 (0, 0)) := by rw [hV]; exact blk_old gA
            have gB : V4.heap[V3.heap.size]? = some (.cells #[.int .i64 0, .int .i64 0, .slice none 0 0] 42 (0, 0)) := by rw [hV]; exact blk_new rfl
            have hrB : w4.heap.size ≤ V3.heap.size := m3.size
            have hab : w4.heap.size ≠ V3.heap.size := by omega
            have hv := hv.move (S' := fun b => D < b ∧ b ≠ w4.heap.size ∧ b ≠ V3.heap.size) (w' := V4) (by rw [hV]; simp) fun b hb' hs => ⟨by rw [hV]; exact heap_alloc_old _ _ hb', by have hs' := hs; omega⟩
            clear hV hHeld
            have hHeld : V4.cell? ⟨w2.heap.size, 0, none⟩ = some (.slice af N cf) ∧ V4.cell? ⟨w2.heap.size, 1, none⟩ = some (.slice at' s.rules.titles.length ct) ∧ V4.cell? ⟨w2.heap.size, 2, none⟩ = some (.slice an s.rules.nicks.length cn) ∧ V4.cell? ⟨w2.heap.size, 3, none⟩ = some (.slice as' s.rules.streets.length cs) := ⟨(cellsS (KA.out.moved (m4)).b).1, (cellsS (KA.out.moved (m4)).b).2.1, (cellsS (KA.out.moved (m4)).b).2.2.1, (cellsS (KA.out.moved (m4)).b).2.2.2⟩
          rotate_left 1
          focus
            go_simp
            refine hK.out _ _ (⟨(cellsS (KA.out.moved (m2.alloc (.cells #[.int .i64 0, .int .i64 0, .slice none 0 0] 42))).b).1, (cellsS (KA.out.moved (m2.alloc (.cells #[.int .i64 0, .int .i64 0, .slice none 0 0] 42))).b).2.1, (cellsS (KA.out.moved (m2.alloc (.cells #[.int .i64 0, .int .i64 0, .slice none 0 0] 42))).b).2.2.1, (cellsS (KA.out.moved (m2.alloc (.cells #[.int .i64 0, .int .i64 0, .slice none 0 0] 42))).b).2.2.2⟩) (fun hHeld => ?_)
            clear hK K
            try simp only [List.getElem_toArray, List.getElem_cons_zero, List.getElem_cons_succ, Act.put, List.setIfInBounds_toArray, List.set_cons_zero, List.set_cons_succ]
            refine wph_name (fun V3 hV => ?_)
            have m3 : Moved D w4 V3 := by rw [hV]; exact m2.alloc (.cells #[.int .i64 0, .int .i64 0, .slice none 0 0] 42)
            have hltgA := lt_of_blk gA; have gA : V3.heap[w4.heap.size]? = some (.cells #[.int .u64 0, .int .u64 0] 39 (0, 0)) := by rw [hV]; exact blk_old gA
            have gB : V3.heap[V2.heap.size]? = some (.cells #[.int .i64 0, .int .i64 0, .slice none 0 0] 42 (0, 0)) := by rw [hV]; exact blk_new rfl
            have hrB : w4.heap.size ≤ V2.heap.size := m2.size
            have hab : w4.heap.size ≠ V2.heap.size := by omega
            clear hV hHeld
            have hHeld : V3.cell? ⟨w2.heap.size, 0, none⟩ = some (.slice af N cf) ∧ V3.cell? ⟨w2.heap.size, 1, none⟩ = some (.slice at' s.rules.titles.length ct) ∧ V3.cell? ⟨w2.heap.size, 2, none⟩ = some (.slice an s.rules.nicks.length cn) ∧ V3.cell? ⟨w2.heap.size, 3, none⟩ = some (.slice as' s.rules.streets.length cs) := ⟨(cellsS (KA.out.moved (m3)).b).1, (cellsS (KA.out.moved (m3)).b).2.1, (cellsS (KA.out.moved (m3)).b).2.2.1, (cellsS (KA.out.moved (m3)).b).2.2.2⟩
            refine wpAnyH_ready (rs := [4]) (by kernel_rfl) (by simp) ?_
            refine AllReadyH.cons rfl (fun K hK => ?_) (AllReadyH.nil)
            go_simp
            refine (record_deal D (fun b => Wd.heap.size ≤ b) _ _ _ _ s 3 _ (KA.out.moved m3).m.deck (KA.out.moved m3).s HNe.out HSD.out (by decide) (by decide)).mono ?_
            rintro e V4 ⟨_, r, rfl, ⟨sr, rfl, hv⟩, hi, hc, hsh, mv⟩
            have m4 := m3.trans mv
            have hltgA := lt_of_blk gA; have gA := mv.blk (by omega) gA
            have hltgB := lt_of_blk gB; have gB := mv.blk (by omega) gB
            have hv := hv.move (S' := fun b => D < b ∧ b ≠ w4.heap.size ∧ b ≠ V2.heap.size) (w' := V4) (Nat.le_refl _) fun b hb' hs => ⟨rfl, by have h1 := m3.size; have hs' := hs; omega⟩
            obtain ⟨a1, c1, es⟩ := hv.slice; subst es
            have HC := Lib.hid (show checkN s r = 0 ∧ ∀ x ∈ r.vals, x.length ≤ 64 from ⟨hc, hsh⟩); clear hc hsh mv hi
            refine hK.out _ _ (⟨(cellsS (KA.out.moved (m4)).b).1, (cellsS (KA.out.moved (m4)).b).2.1, (cellsS (KA.out.moved (m4)).b).2.2.1, (cellsS (KA.out.moved (m4)).b).2.2.2⟩) (fun hHeld => ?_)
            clear hK K
            try simp only [List.getElem_toArray, List.getElem_cons_zero, List.getElem_cons_succ, Act.put, List.setIfInBounds_toArray, List.set_cons_zero, List.set_cons_succ]
        rotate_left 2
        focus
          go_simp
          refine hK.out _ _ (⟨(cellsS (KA.out.moved (m1.alloc (.cells #[.int .i64 0, .int .i64 0, .slice none 0 0] 42))).b).1, (cellsS (KA.out.moved (m1.alloc (.cells #[.int .i64 0, .int .i64 0, .slice none 0 0] 42))).b).2.1, (cellsS (KA.out.moved (m1.alloc (.cells #[.int .i64 0, .int .i64 0, .slice none 0 0] 42))).b).2.2.1, (cellsS (KA.out.moved (m1.alloc (.cells #[.int .i64 0, .int .i64 0, .slice none 0 0] 42))).b).2.2.2⟩) (fun hHeld => ?_)
          clear hK K
          try simp only [List.getElem_toArray, List.getElem_cons_zero, List.getElem_cons_succ, Act.put, List.setIfInBounds_toArray, List.set_cons_zero, List.set_cons_succ]
          refine wph_name (fun V2 hV => ?_)
          have m2 : Moved D w4 V2 := by rw [hV]; exact m1.alloc (.cells #[.int .i64 0, .int .i64 0, .slice none 0 0] 42)
          have hltgA := lt_of_blk gA; have gA : V2.heap[w4.heap.size]? = some (.cells #[.int .u64 0, .int .u64 0] 39 (0, 0)) := by rw [hV]; exact blk_old gA
          have gB : V2.heap[V1.heap.size]? = some (.cells #[.int .i64 0, .int .i64 0, .slice none 0 0] 42 (0, 0)) := by rw [hV]; exact blk_new rfl
          have hrB : w4.heap.size ≤ V1.heap.size := m1.size
          have hab : w4.heap.size ≠ V1.heap.size := by omega
          clear hV hHeld
          have hHeld : V2.cell? ⟨w2.heap.size, 0, none⟩ = some (.slice af N cf) ∧ V2.cell? ⟨w2.heap.size, 1, none⟩ = some (.slice at' s.rules.titles.length ct) ∧ V2.cell? ⟨w2.heap.size, 2, none⟩ = some (.slice an s.rules.nicks.length cn) ∧ V2.cell? ⟨w2.heap.size, 3, none⟩ = some (.slice as' s.rules.streets.length cs) := ⟨(cellsS (KA.out.moved (m2)).b).1, (cellsS (KA.out.moved (m2)).b).2.1, (cellsS (KA.out.moved (m2)).b).2.2.1, (cellsS (KA.out.moved (m2)).b).2.2.2⟩
          refine wpAnyH_ready (rs := [1]) (by kernel_rfl) (by simp) ?_
          refine AllReadyH.cons rfl (fun K hK => ?_) (AllReadyH.nil)
          go_simp
          refine (key_deal D _ (KA.out.moved m2).m.deck).mono ?_
          rintro e V3 ⟨k, rfl, mv⟩
          have m3 := m2.trans mv
          have hltgA := lt_of_blk gA; have gA := mv.blk (by omega) gA
          have hltgB := lt_of_blk gB; have gB := mv.blk (by omega) gB
          clear mv
          refine hK.out _ _ (⟨(cellsS (KA.out.moved (m3)).b).1, (cellsS (KA.out.moved (m3)).b).2.1, (cellsS (KA.out.moved (m3)).b).2.2.1, (cellsS (KA.out.moved (m3)).b).2.2.2⟩) (fun hHeld => ?_)
          clear hK K
          try simp only [List.getElem_toArray, List.getElem_cons_zero, List.getElem_cons_succ, Act.put, List.setIfInBounds_toArray, List.set_cons_zero, List.set_cons_succ]
          refine wpAnyH_ready (rs := [4]) (by kernel_rfl) (by simp) ?_
          refine AllReadyH.cons rfl (fun K hK => ?_) (AllReadyH.nil)
          go_simp
          refine (record_deal D (fun b => Wd.heap.size ≤ b) _ _ _ _ s 3 _ (KA.out.moved m3).m.deck (KA.out.moved m3).s HNe.out HSD.out (by decide) (by decide)).mono ?_
          rintro e V4 ⟨_, r, rfl, ⟨sr, rfl, hv⟩, hi, hc, hsh, mv⟩
          have m4 := m3.trans mv
          have hltgA := lt_of_blk gA; have gA := mv.blk (by omega) gA
          have hltgB := lt_of_blk gB; have gB := mv.blk (by omega) gB
          have hv := hv.move (S' := fun b => D < b ∧ b ≠ w4.heap.size ∧ b ≠ V1.heap.size) (w' := V4) (Nat.le_refl _) fun b hb' hs => ⟨rfl, by have h1 := m3.size; have hs' := hs; omega⟩
          obtain ⟨a1, c1, es⟩ := hv.slice; subst es
          have HC := Lib.hid (show checkN s r = 0 ∧ ∀ x ∈ r.vals, x.length ≤ 64 from ⟨hc, hsh⟩); clear hc hsh mv hi
          refine hK.out _ _ (⟨(cellsS (KA.out.moved (m4)).b).1, (cellsS (KA.out.moved (m4)).b).2.1, (cellsS (KA.out.moved (m4)).b).2.2.1, (cellsS (KA.out.moved (m4)).b).2.2.2⟩) (fun hHeld => ?_)
          clear hK K
          try simp only [List.getElem_toArray, List.getElem_cons_zero, List.getElem_cons_succ, Act.put, List.setIfInBounds_toArray, List.set_cons_zero, List.set_cons_succ]
      rotate_left 3
      focus
        go_simp
        refine hK.out _ _ (⟨(cellsS (KA.out.moved (mD.alloc (.cells #[.int .i64 0, .int .i64 0, .slice none 0 0] 42))).b).1, (cellsS (KA.out.moved (mD.alloc (.cells #[.int .i64 0, .int .i64 0, .slice none 0 0] 42))).b).2.1, (cellsS (KA.out.moved (mD.alloc (.cells #[.int .i64 0, .int .i64 0, .slice none 0 0] 42))).b).2.2.1, (cellsS (KA.out.moved (mD.alloc (.cells #[.int .i64 0, .int .i64 0, .slice none 0 0] 42))).b).2.2.2⟩) (fun hHeld => ?_)
        clear hK K
        try simp only [List.getElem_toArray, List.getElem_cons_zero, List.getElem_cons_succ, Act.put, List.setIfInBounds_toArray, List.set_cons_zero, List.set_cons_succ]
        refine wph_name (fun V1 hV => ?_)
        have m1 : Moved D w4 V1 := by rw [hV]; exact mD.alloc (.cells #[.int .i64 0, .int .i64 0, .slice none 0 0] 42)
        have gB : V1.heap[w4.heap.size]? = some (.cells #[.int .i64 0, .int .i64 0, .slice none 0 0] 42 (0, 0)) := by rw [hV]; exact blk_new rfl
        have hrB : w4.heap.size ≤ w4.heap.size := mD.size
        clear hV hHeld
        have hHeld : V1.cell? ⟨w2.heap.size, 0, none⟩ = some (.slice af N cf) ∧ V1.cell? ⟨w2.heap.size, 1, none⟩ = some (.slice at' s.rules.titles.length ct) ∧ V1.cell? ⟨w2.heap.size, 2, none⟩ = some (.slice an s.rules.nicks.length cn) ∧ V1.cell? ⟨w2.heap.size, 3, none⟩ = some (.slice as' s.rules.streets.length cs) := ⟨(cellsS (KA.out.moved (m1)).b).1, (cellsS (KA.out.moved (m1)).b).2.1, (cellsS (KA.out.moved (m1)).b).2.2.1, (cellsS (KA.out.moved (m1)).b).2.2.2⟩
        refine wpAnyH_ready (rs := [1, 5]) (by kernel_rfl) (by simp) ?_
        refine AllReadyH.cons rfl (fun K hK => ?_) (AllReadyH.cons rfl (fun K hK => ?_) (AllReadyH.nil))
        focus
          go_simp
          refine (key_deal D _ (KA.out.moved m1).m.deck).mono ?_
          rintro e V2 ⟨k, rfl, mv⟩
          have m2 := m1.trans mv
          have hltgB := lt_of_blk gB; have gB := mv.blk (by omega) gB
          clear mv
          refine hK.out _ _ (⟨(cellsS (KA.out.moved (m2)).b).1, (cellsS (KA.out.moved (m2)).b).2.1, (cellsS (KA.out.moved (m2)).b).2.2.1, (cellsS (KA.out.moved (m2)).b).2.2.2⟩) (fun hHeld => ?_)
          clear hK K
          try simp only [List.getElem_toArray, List.getElem_cons_zero, List.getElem_cons_succ, Act.put, List.setIfInBounds_toArray, List.set_cons_zero, List.set_cons_succ]
          refine wpAnyH_ready (rs := [4, 5]) (by kernel_rfl) (by simp) ?_
          refine AllReadyH.cons rfl (fun K hK => ?_) (AllReadyH.cons rfl (fun K hK => ?_) (AllReadyH.nil))
          focus
            go_simp
            refine (record_deal D (fun b => Wd.heap.size ≤ b) _ _ _ _ s 3 _ (KA.out.moved m2).m.deck (KA.out.moved m2).s HNe.out HSD.out (by decide) (by decide)).mono ?_
            rintro e V3 ⟨_, r, rfl, ⟨sr, rfl, hv⟩, hi, hc, hsh, mv⟩
            have m3 := m2.trans mv
            have hltgB := lt_of_blk gB; have gB := mv.blk (by omega) gB
            have hv := hv.move (S' := fun b => D < b ∧ b ≠ w4.heap.size) (w' := V3) (Nat.le_refl _) fun b hb' hs => ⟨rfl, by have h1 := m2.size; have hs' := hs; omega⟩
            obtain ⟨a1, c1, es⟩ := hv.slice; subst es
            have HC := Lib.hid (show checkN s r = 0 ∧ ∀ x ∈ r.vals, x.length ≤ 64 from ⟨hc, hsh⟩); clear hc hsh mv hi
            refine hK.out _ _ (⟨(cellsS (KA.out.moved (m3)).b).1, (cellsS (KA.out.moved (m3)).b).2.1, (cellsS (KA.out.moved (m3)).b).2.2.1, (cellsS (KA.out.moved (m3)).b).2.2.2⟩) (fun hHeld => ?_)
            clear hK K
            try simp only [List.getElem_toArray, List.getElem_cons_zero, List.getElem_cons_succ, Act.put, List.setIfInBounds_toArray, List.set_cons_zero, List.set_cons_succ]
            refine wpAnyH_ready (rs := [5]) (by kernel_rfl) (by simp) ?_
            refine AllReadyH.cons rfl (fun K hK => ?_) (AllReadyH.nil)
            go_simp
            refine hK.out _ _ (⟨(cellsS (KA.out.moved (m3.alloc (.cells #[.int .u64 0, .int .u64 0] 39))).b).1, (cellsS (KA.out.moved (m3.alloc (.cells #[.int .u64 0, .int .u64 0] 39))).b).2.1, (cellsS (KA.out.moved (m3.alloc (.cells #[.int .u64 0, .int .u64 0] 39))).b).2.2.1, (cellsS (KA.out.moved (m3.alloc (.cells #[.int .u64 0, .int .u64 0] 39))).b).2.2.2⟩) (fun hHeld => ?_)
            clear hK K
            try simp only [List.getElem_toArray, List.getElem_cons_zero, List.getElem_cons_succ, Act.put, List.setIfInBounds_toArray, List.set_cons_zero, List.set_cons_succ]
            refine wph_name (fun V4 hV => ?_)
            have m4 : Moved D w4 V4 := by rw [hV]; exact m3.alloc (.cells #[.int .u64 0, .int .u64 0] 39)
            have hltgB := lt_of_blk gB; have gB : V4.heap[w4.heap.size]? = some (.cells #[.int .i64 0, .int .i64 0, .slice none 0 0] 42 (0, 0)) := by rw [hV]; exact blk_old gB
            have gA : V4.heap[V3.heap.size]? = some (.cells #[.int .u64 0, .int .u64 0] 39 (0, 0)) := by rw [hV]; exact blk_new rfl
            have hrA : w4.heap.size ≤ V3.heap.size := m3.size
            have hab : V3.heap.size ≠ w4.heap.size := by omega
            have hv := hv.move (S' := fun b => D < b ∧ b ≠ V3.heap.size ∧ b ≠ w4.heap.size) (w' := V4) (by rw [hV]; simp) fun b hb' hs => ⟨by rw [hV]; exact heap_alloc_old _ _ hb', by have hs' := hs; omega⟩
            clear hV hHeld
            have hHeld : V4.cell? ⟨w2.heap.size, 0, none⟩ = some (.slice af N cf) ∧ V4.cell? ⟨w2.heap.size, 1, none⟩ = some (.slice at' s.rules.titles.length ct) ∧ V4.cell? ⟨w2.heap.size, 2, none⟩ = some (.slice an s.rules.nicks.length cn) ∧ V4.cell? ⟨w2.heap.size, 3, none⟩ = some (.slice as' s.rules.streets.length cs) := ⟨(cellsS (KA.out.moved (m4)).b).1, (cellsS (KA.out.moved (m4)).b).2.1, (cellsS (KA.out.moved (m4)).b).2.2.1, (cellsS (KA.out.moved (m4)).b).2.2.2⟩
          rotate_left 1
          focus
            go_simp
            refine hK.out _ _ (⟨(cellsS (KA.out.moved (m2.alloc (.cells #[.int .u64 0, .int .u64 0] 39))).b).1, (cellsS (KA.out.moved (m2.alloc (.cells #[.int .u64 0, .int .u64 0] 39))).b).2.1, (cellsS (KA.out.moved (m2.alloc (.cells #[.int .u64 0, .int .u64 0] 39))).b).2.2.1, (cellsS (KA.out.moved (m2.alloc (.cells #[.int .u64 0, .int .u64 0] 39))).b).2.2.2⟩) (fun hHeld => ?_)
            clear hK K
            try simp only [List.getElem_toArray, List.getElem_cons_zero, List.getElem_cons_succ, Act.put, List.setIfInBounds_toArray, List.set_cons_zero, List.set_cons_succ]
            refine wph_name (fun V3 hV => ?_)
            have m3 : Moved D w4 V3 := by rw [hV]; exact m2.alloc (.cells #[.int .u64 0, .int .u64 0] 39)
            have hltgB := lt_of_blk gB; have gB : V3.heap[w4.heap.size]? = some (.cells #[.int .i64 0, .int .i64 0, .slice none 0 0] 42 (0, 0)) := by rw [hV]; exact blk_old gB
            have gA : V3.heap[V2.heap.size]? = some (.cells #[.int .u64 0, .int .u64 0] 39 (0, 0)) := by rw [hV]; exact blk_new rfl
            have hrA : w4.heap.size ≤ V2.heap.size := m2.size
            have hab : V2.heap.size ≠ w4.heap.size := by omega
            clear hV hHeld
            have hHeld : V3.cell? ⟨w2.heap.size, 0, none⟩ = some (.slice af N cf) ∧ V3.cell? ⟨w2.heap.size, 1, none⟩ = some (.slice at' s.rules.titles.length ct) ∧ V3.cell? ⟨w2.heap.size, 2, none⟩ = some (.slice an s.rules.nicks.length cn) ∧ V3.cell? ⟨w2.heap.size, 3, none⟩ = some (.slice as' s.rules.streets.length cs) := ⟨(cellsS (KA.out.moved (m3)).b).1, (cellsS (KA.out.moved (m3)).b).2.1, (cellsS (KA.out.moved (m3)).b).2.2.1, (cellsS (KA.out.moved (m3)).b).2.2.2⟩
            refine wpAnyH_ready (rs := [4]) (by kernel_rfl) (by simp) ?_
            refine AllReadyH.cons rfl (fun K hK => ?_) (AllReadyH.nil)
            go_simp
            refine (record_deal D (fun b => Wd.heap.size ≤ b) _ _ _ _ s 3 _ (KA.out.moved m3).m.deck (KA.out.moved m3).s HNe.out HSD.out (by decide) (by decide)).mono ?_
            rintro e V4 ⟨_, r, rfl, ⟨sr, rfl, hv⟩, hi, hc, hsh, mv⟩
            have m4 := m3.trans mv
            have hltgB := lt_of_blk gB; have gB := mv.blk (by omega) gB
            have hltgA := lt_of_blk gA; have gA := mv.blk (by omega) gA
            have hv := hv.move (S' := fun b => D < b ∧ b ≠ V2.heap.size ∧ b ≠ w4.heap.size) (w' := V4) (Nat.le_refl _) fun b hb' hs => ⟨rfl, by have h1 := m3.size; have hs' := hs; omega⟩
            obtain ⟨a1, c1, es⟩ := hv.slice; subst es
            have HC := Lib.hid (show checkN s r = 0 ∧ ∀ x ∈ r.vals, x.length ≤ 64 from ⟨hc, hsh⟩); clear hc hsh mv hi
            refine hK.out _ _ (⟨(cellsS (KA.out.moved (m4)).b).1, (cellsS (KA.out.moved (m4)).b).2.1, (cellsS (KA.out.moved (m4)).b).2.2.1, (cellsS (KA.out.moved (m4)).b).2.2.2⟩) (fun hHeld => ?_)
            clear hK K
            try simp only [List.getElem_toArray, List.getElem_cons_zero, List.getElem_cons_succ, Act.put, List.setIfInBounds_toArray, List.set_cons_zero, List.set_cons_succ]
        rotate_left 2
        focus
          go_simp
          refine hK.out _ _ (⟨(cellsS (KA.out.moved (m1.alloc (.cells #[.int .u64 0, .int .u64 0] 39))).b).1, (cellsS (KA.out.moved (m1.alloc (.cells #[.int .u64 0, .int .u64 0] 39))).b).2.1, (cellsS (KA.out.moved (m1.alloc (.cells #[.int .u64 0, .int .u64 0] 39))).b).2.2.1, (cellsS (KA.out.moved (m1.alloc (.cells #[.int .u64 0, .int .u64 0] 39))).b).2.2.2⟩) (fun hHeld => ?_)
          clear hK K
          try simp only [List.getElem_toArray, List.getElem_cons_zero, List.getElem_cons_succ, Act.put, List.setIfInBounds_toArray, List.set_cons_zero, List.set_cons_succ]
          refine wph_name (fun V2 hV => ?_)
          have m2 : Moved D w4 V2 := by rw [hV]; exact m1.alloc (.cells #[.int .u64 0, .int .u64 0] 39)
          have hltgB := lt_of_blk gB; have gB : V2.heap[w4.heap.size]? = some (.cells #[.int .i64 0, .int .i64 0, .slice none 0 0] 42 (0, 0)) := by rw [hV]; exact blk_old gB
          have gA : V2.heap[V1.heap.size]? = some (.cells #[.int .u64 0, .int .u64 0] 39 (0, 0)) := by rw [hV]; exact blk_new rfl
          have hrA : w4.heap.size ≤ V1.heap.size := m1.size
          have hab : V1.heap.size ≠ w4.heap.size := by omega
          clear hV hHeld
          have hHeld : V2.cell? ⟨w2.heap.size, 0, none⟩ = some (.slice af N cf) ∧ V2.cell? ⟨w2.heap.size, 1, none⟩ = some (.slice at' s.rules.titles.length ct) ∧ V2.cell? ⟨w2.heap.size, 2, none⟩ = some (.slice an s.rules.nicks.length cn) ∧ V2.cell? ⟨w2.heap.size, 3, none⟩ = some (.slice as' s.rules.streets.length cs) := ⟨(cellsS (KA.out.moved (m2)).b).1, (cellsS (KA.out.moved (m2)).b).2.1, (cellsS (KA.out.moved (m2)).b).2.2.1, (cellsS (KA.out.moved (m2)).b).2.2.2⟩
          refine wpAnyH_ready (rs := [1]) (by kernel_rfl) (by simp) ?_
          refine AllReadyH.cons rfl (fun K hK => ?_) (AllReadyH.nil)
          go_simp
          refine (key_deal D _ (KA.out.moved m2).m.deck).mono ?_
          rintro e V3 ⟨k, rfl, mv⟩
          have m3 := m2.trans mv
          have hltgB := lt_of_blk gB; have gB := mv.blk (by omega) gB
          have hltgA := lt_of_blk gA; have gA := mv.blk (by omega) gA
          clear mv
          refine hK.out _ _ (⟨(cellsS (KA.out.moved (m3)).b).1, (cellsS (KA.out.moved (m3)).b).2.1, (cellsS (KA.out.moved (m3)).b).2.2.1, (cellsS (KA.out.moved (m3)).b).2.2.2⟩) (fun hHeld => ?_)
          clear hK K
          try simp only [List.getElem_toArray, List.getElem_cons_zero, List.getElem_cons_succ, Act.put, List.setIfInBounds_toArray, List.set_cons_zero, List.set_cons_succ]
          refine wpAnyH_ready (rs := [4]) (by kernel_rfl) (by simp) ?_
          refine AllReadyH.cons rfl (fun K hK => ?_) (AllReadyH.nil)
          go_simp
          refine (record_deal D (fun b => Wd.heap.size ≤ b) _ _ _ _ s 3 _ (KA.out.moved m3).m.deck (KA.out.moved m3).s HNe.out HSD.out (by decide) (by decide)).mono ?_
          rintro e V4 ⟨_, r, rfl, ⟨sr, rfl, hv⟩, hi, hc, hsh, mv⟩
          have m4 := m3.trans mv
          have hltgB := lt_of_blk gB; have gB := mv.blk (by omega) gB
          have hltgA := lt_of_blk gA; have gA := mv.blk (by omega) gA
          have hv := hv.move (S' := fun b => D < b ∧ b ≠ V1.heap.size ∧ b ≠ w4.heap.size) (w' := V4) (Nat.le_refl _) fun b hb' hs => ⟨rfl, by have h1 := m3.size; have hs' := hs; omega⟩
          obtain ⟨a1, c1, es⟩ := hv.slice; subst es
          have HC := Lib.hid (show checkN s r = 0 ∧ ∀ x ∈ r.vals, x.length ≤ 64 from ⟨hc, hsh⟩); clear hc hsh mv hi
          refine hK.out _ _ (⟨(cellsS (KA.out.moved (m4)).b).1, (cellsS (KA.out.moved (m4)).b).2.1, (cellsS (KA.out.moved (m4)).b).2.2.1, (cellsS (KA.out.moved (m4)).b).2.2.2⟩) (fun hHeld => ?_)
          clear hK K
          try simp only [List.getElem_toArray, List.getElem_cons_zero, List.getElem_cons_succ, Act.put, List.setIfInBounds_toArray, List.set_cons_zero, List.set_cons_succ]
      all_goals
        have lA := lt_of_blk gA; obtain ⟨xA0, xA1⟩ := cells2K gA; have fA0 := frozen_of_row _ _ 0 _ _ gA; have fA1 := frozen_of_row _ _ 1 _ _ gA
        have ms := (m4.set (a := ⟨_, 0, none⟩) hrA (.int .u64 k.1)).set (a := ⟨_, 1, none⟩) hrA (.int .u64 k.2)
        have lB := lt_of_blk gB; obtain ⟨xB0, xB1, xB2⟩ := cells3 gB; have fB0 := frozen_of_row _ _ 0 _ _ gB; have fB1 := frozen_of_row _ _ 1 _ _ gB; have fB2 := frozen_of_row _ _ 2 _ _ gB
        have mt := ((ms.set (a := ⟨_, 0, none⟩) hrB (.int .i64 r.id)).set (a := ⟨_, 1, none⟩) hrB (.int .i64 r.ver)).set (a := ⟨_, 2, none⟩) hrB (.slice a1 r.vals.length c1)
        refine wpAnyH_ready (rs := [7]) (by kernel_rfl) (by simp) ?_
        refine AllReadyH.cons rfl (fun K hK => ?_) AllReadyH.nil
        go_simp
        refine hK.out _ _ (⟨(cellsS (KA.out.moved (ms)).b).1, (cellsS (KA.out.moved (ms)).b).2.1, (cellsS (KA.out.moved (ms)).b).2.2.1, (cellsS (KA.out.moved (ms)).b).2.2.2⟩) (fun hHeld => ?_)
        clear hK K
        try simp only [List.getElem_toArray, List.getElem_cons_zero, List.getElem_cons_succ, Act.put, List.setIfInBounds_toArray, List.set_cons_zero, List.set_cons_succ]
        refine wpAnyH_ready (rs := [8]) (by kernel_rfl) (by simp) ?_
        refine AllReadyH.cons rfl (fun K hK => ?_) AllReadyH.nil
        go_simp
        refine hK.out _ _ (⟨(cellsS (KA.out.moved (mt)).b).1, (cellsS (KA.out.moved (mt)).b).2.1, (cellsS (KA.out.moved (mt)).b).2.2.1, (cellsS (KA.out.moved (mt)).b).2.2.2⟩) (fun hHeld => ?_)
        clear hK K
        try simp only [List.getElem_toArray, List.getElem_cons_zero, List.getElem_cons_succ, Act.put, List.setIfInBounds_toArray, List.set_cons_zero, List.set_cons_succ]
        refine wpAnyH_done (by kernel_rfl) ?_ _
        refine NoPanic.normal ?_
        go_wp2_with fail
        go_meet
        exact ⟨_, _, _, k, r, rfl, rfl, blk_far (blk_far (blk_far (blk_set (blk_set gA)) hab) hab) hab, blk_set (blk_set (blk_set (blk_far (blk_far gB hab.symm) hab.symm))), ((((hv.far (fun b hb => hb.2.1)).far (fun b hb => hb.2.1)).far (fun b hb => hb.2.2)).far (fun b hb => hb.2.2)).far (fun b hb => hb.2.2), HC, mt, hrA, hrB, hab⟩
    case rest =>
      obtain ⟨wB, hwB⟩ : ∃ u, u = wc := ⟨_, rfl⟩
      subst hwB
      obtain ⟨ka, ra, sr, k, r, rfl, rfl, gk, gr, hvr, HC1, mw, hka, hra, hab⟩ := hcut
      obtain ⟨aa, ca, rfl⟩ := hvr.slice
      have zw4 := KA.out.m.deck.lt
      have KC := Lib.hid (show LbAt D Wd w2.heap.size ka (fun b => Wd.heap.size ≤ b) (.slice af N cf) (.slice at' s.rules.titles.length ct) (.slice an s.rules.nicks.length cn) (.slice as' s.rules.streets.length cs) s (.slice ak Ks.length ck) Ks k wB from (KA.out.moved mw).key gk (by omega))
      have HGA := Lib.hid gr; have HVA := Lib.hid hvr.any
      clear p0 p1 p2 p3 mD KA mw gk gr hvr
      go_wp2_with fail
      go_loopw [43] (fun t wr => ∃ j : Nat, t = .int .i64 j ∧ j ≤ Ks.length ∧ Below wB.heap.size wB wr) (fun t _ => Ks.length - (intOf t).toNat)
      case atStart => exact ⟨0, rfl, by omega, Below.refl _ _⟩
      case round =>
        obtain ⟨j, rfl, hj, hbw⟩ := hrel
        obtain ⟨wo, rfl⟩ : ∃ wo : World, wo = wr := ⟨_, rfl⟩
        have HBo := Lib.hid hbw
        by_cases hlt : j < Ks.length
        · have hq : decide ((j : Int) < (Ks.length : Int)) = true := by simp; omega
          have hji : (j : Int) < (Ks.length : Int) := by omega
          have KO := Lib.hid (KC.out.below hbw)
          obtain ⟨kb, ko, kc, rfl, lkb, kc0, hvK⟩ := KO.out.ks.at j hlt
          obtain ⟨K, hK⟩ : ∃ K, Ks.getD j [] = K := ⟨_, rfl⟩
          have hkey := HKO.out.key K (by rw [← hK, getD_at _ _ hlt]; exact List.getElem_mem hlt)
          rw [hK] at hvK
          obtain ⟨kca, kcn, kcc⟩ := kc
          dsimp only at kc0 hvK
          have hkl := hvK.len.1
          subst hkl
          have hK3' := hkey.len2
          have HKK := Lib.hid hK; have HKey := Lib.hid hkey; have HVK := Lib.hid hvK
          have HShort := Lib.hid ((comps_ok hkey HC1.out.1 HC1.out.2).short)
          clear hK hkey hvK hbw
          go_wp2_with fail
          refine wp_world (fun W8 hW8 => ?_)
          have hb8 : Below wo.heap.size wo W8 := by rw [hW8]; exact (Below.refl wo.heap.size wo).alloc (Nat.le_refl _) _
          have hx8 : W8.heap[wo.heap.size]? = some (.cells #[.slice kca K.length kcc] 46 (0, 0)) := by rw [hW8]; exact blk_new rfl
          have HB8 := Lib.hid (HBo.out.trans (hb8.mono HBo.out.size)); have HVK8 := Lib.hid (HVK.out.below hb8)
          have g0 := (by rw [cell_of_row _ _ _ _ _ _ hx8]; rfl : W8.cell? ⟨wo.heap.size, 0, none⟩ = some (.slice kca K.length kcc))
          have lx8 := lt_of_blk hx8
          clear hb8 hx8 hW8 HVK kc0 lkb KO
          go_wp2_with fail
          go_loopw [10, 11, 51] (fun v u t wr => ∃ (i : Nat) (b : Bool), u = .bool b ∧ t = .int .i64 i ∧ i ≤ K.length ∧ Hid (fullB r.vals (K.take i) = b) ∧ OwnV 9 1 encS W8 v ((K.take i).map (compN r.vals)) wr) (fun _ _ t _ => K.length - (intOf t).toNat)
          case atStart => exact ⟨0, true, rfl, rfl, by omega, Lib.hid rfl, OwnV.start _ _ _ _⟩
          case round =>
            obtain ⟨i, b, rfl, rfl, hi, HE, ho⟩ := hrel
            have HO := Lib.hid ho
            have hbw := ho.2
            have HBW := Lib.hid hbw
            by_cases hil : i < K.length
            · have hq2 : decide ((i : Int) < (K.length : Int)) = true := by simp; omega
              have hii : (i : Int) < (K.length : Int) := by omega
              obtain ⟨cb0, co, rfl, lcb, hcc⟩ := (HVK8.out.below hbw).get i hil
              have d0 := hcc 0 _ rfl; have d1 := hcc 1 _ rfl
              rw [Nat.add_zero] at d0
              obtain ⟨c, hc⟩ : ∃ c, K[i] = c := ⟨_, rfl⟩
              have hcm : c ∈ K := by rw [← hc]; exact List.getElem_mem hil
              obtain ⟨X, hX⟩ : ∃ X, compN r.vals c = X := ⟨_, rfl⟩
              have HE' := Lib.hid (show fullB r.vals (K.take (i + 1)) = (b && decide (X ≠ [])) by unfold fullB; rw [all_snoc _ _ _ hil, hc, hX]; exact congrArg (· && _) HE.out)
              have HT := Lib.hid (show (K.take (i + 1)).map (compN r.vals) = (K.take i).map (compN r.vals) ++ [X] by rw [List.take_succ_eq_append_getElem hil, List.map_append, hc, List.map_cons, hX]; rfl)
              rw [hc] at d0 d1
              have HCM := Lib.hid hcm; have HXX := Lib.hid hX
              obtain ⟨cf0, ct0⟩ := c
              have hbz := HB8.out.trans (hbw.mono HB8.out.size)
              have KE := Lib.hid (KC.out.below hbz)
              obtain ⟨q0, q1, q2, q3⟩ := cellsS KE.out.b
              obtain ⟨x0, x1, x2⟩ := cells3 (blk_below hbz (lt_of_blk HGA.out) HGA.out)
              have ly := lt_of_blk KE.out.b
              have la := Nat.lt_of_lt_of_le (lt_of_blk HGA.out) hbz.size
              have HVA8 := Lib.hid (HVA.out.below hbz)
              clear hcc hc hcm hX hbw HE ho hbz
              go_wp2_with fail
              refine wp_calls_world (fun W9 hW9 => ?_)
              have hb9 : Below wr.heap.size wr W9 := by rw [hW9]; exact (Below.refl wr.heap.size wr).alloc (Nat.le_refl _) _
              clear hW9
              refine (part_of (c := (cf0, ct0)) (KE.out.s.below hb9) (HVA8.out.below hb9) HKey.out HC1.out.1 HC1.out.2 HL1000.out HCM.out).mono ?_
              rw [HXX.out]
              rintro e w9 ⟨rfl, hb⟩
              have hbr := hb9.trans (hb.mono hb9.size)
              have HO2 := Lib.hid (HO.out.below (hbr.alloc hbr.size (.cells #[strV X] 9)))
              have HR2 := Lib.hid (show Reads (w9.alloc (.cells #[strV X] 9)) 1 (.slice (some ⟨w9.heap.size, 0, none⟩) 1 1) [X].length ([X].flatMap encS) from reads_block (xs := [X].flatMap encS) (fr := (0, 0)) (t := 9) (blk_new rfl) rfl)
              have hcn : ((K.take i).map (compN r.vals)).length + [X].length ≤ 1000000000 := by rw [List.length_map, List.length_take]; simp; omega
              clear hb hb9 hbr q0 q1 q2 q3 x0 x1 x2 ly la HVA8 KE
              cases b
              all_goals go_wp2_with (at_builtin; refine wpList_append_v rfl (.tmp 64) (.tmp 66) 28 rfl 9 (.string ⟨#[]⟩) 1 16 encS (fun _ => rfl) oneH Tryz.underlying28 infoS rfl (by decide) (by decide) (w0 := W8) (v := u10) (A := (K.take i).map (compN r.vals)) (B := [X]) rfl HO2.out rfl HR2.out hcn ?_; intro v6 w6 ho6 hk6 hz6)
              all_goals go_roundw
              all_goals first | exact ⟨i + 1, _, rfl, by go_num, by omega, Lib.hid (HE'.out.trans (by cases X <;> simp)), by rw [HT.out]; exact ho6⟩ | (simp [intOf]; omega)
            · have hq2 : decide ((i : Int) < (K.length : Int)) = false := by simp; omega
              obtain rfl : i = K.length := by omega
              have e1 := HE.out
              rw [List.take_length] at e1 HO
              obtain ⟨L, hL⟩ : ∃ L, K.map (compN r.vals) = L := ⟨_, rfl⟩
              rw [hL] at HO
              obtain ⟨⟨h1, o1⟩, hh1⟩ : ∃ p, bhashN k j L = p := ⟨_, rfl⟩
              have ho1 : o1 = b := by have := hash_full k j r.vals K; rw [hL, hh1, e1] at this; exact this
              have hp1 : o1 = true → h1 = partsP (deriveP k.1 k.2 (blkLabel (Lib.decDigits j))).1 (deriveP k.1 k.2 (blkLabel (Lib.decDigits j))).2 L := fun e => by have := hash_parts (k := k) (i := j) (L := L) (by rw [hh1]; exact e); rw [hh1] at this; exact this
              have hz1 : o1 = false → h1 = 0 := fun e => by have := hash_none (k := k) (i := j) (L := L) (by rw [hh1]; exact e); rw [hh1] at this; exact this
              subst ho1
              have hLs : ∀ t ∈ L, t.length ≤ 60000 := by rw [← hL]; intro t ht; obtain ⟨c, hc, rfl⟩ := List.mem_map.1 ht; exact HShort.out c hc
              have hLl : L.length ≤ 1000 := by rw [← hL, List.length_map]; omega
              have hbz := HB8.out.trans (hbw.mono HB8.out.size)
              have KE := Lib.hid (KC.out.below hbz)
              have HVA8 := Lib.hid (HVA.out.below hbz)
              obtain ⟨q0, q1, q2, q3⟩ := cellsS KE.out.b
              obtain ⟨e0, e3⟩ := cells2K KE.out.kk
              obtain ⟨x0, x1, x2⟩ := cells3 (blk_below hbz (lt_of_blk HGA.out) HGA.out)
              have HH1 := Lib.hid hh1; have HP1 := Lib.hid hp1; have HZ1 := Lib.hid hz1; have HBZ := Lib.hid hbz; have HLs := Lib.hid hLs; have HL := Lib.hid hL
              have HVL := Lib.hid (OwnV.vec (size := 1) (enc := encS) (fun _ => rfl) HO.out)
              clear hh1 hp1 hz1 e1 HE hbw hbz g0 hLs hL
              obtain ⟨aL, cL, hvL⟩ := own_slice HO.out.1
              subst hvL
              go_wp2_with fail
              have hh := bHash_yes (fun b => Wd.heap.size ≤ b) (fun b => Wd.heap.size ≤ b) (.slice af N cf) (.slice at' s.rules.titles.length ct) (.slice an s.rules.nicks.length cn) (.slice as' s.rules.streets.length cs) (.slice (some ⟨kb, ko, none⟩) Ks.length ck) s k Ks j r (.slice aa r.vals.length ca) wr KE.out.s KE.out.ks HVA8.out HC1.out.1 HC1.out.2 HL1000.out HKO.out hlt
              rw [HKK.out, HL.out, HH1.out] at hh
              refine hh.mono ?_
              rintro e w9 ⟨rfl, hb⟩
              clear hh q0 q1 q2 q3 e0 e3 x0 x1 x2
              have KF := Lib.hid (KE.out.below hb); have HB9 := Lib.hid (HBZ.out.trans (hb.mono HBZ.out.size)); have HVL9 := Lib.hid (HVL.out.below hb)
              obtain ⟨e0, e3⟩ := cells2K KF.out.kk
              have lk := lt_of_blk KF.out.kk
              clear hb KE HVL HO
              cases o1
              · have hz := HZ1.out rfl
                subst hz
                go_upto_region 20 with fail
                refine wp_region_noPanic ?_
                refine wp_region_held_drew (S := (fun w' => True)) (by kernel_rfl) (trivial) (fun hHeld => ?_)
                refine wpAnyH_take (i := 0) (v := ?_) rfl (by kernel_rfl) (by kernel_rfl) (by kernel_rfl) (fun _ _ _ h => h) (Or.inl ⟨by rfl, ?_⟩) (by assumption) ?_
                rotate_left 1
                · (intro wS hSw; (try dsimp only at hSw); go_simp; try with_reducible rfl)
                try simp only [List.getElem_toArray, List.getElem_cons_zero, List.getElem_cons_succ, Act.put, List.setIfInBounds_toArray, List.set_cons_zero, List.set_cons_succ]
                refine wpAnyH_take (i := 1) (v := ?_) rfl (by kernel_rfl) (by kernel_rfl) (by kernel_rfl) (fun _ _ _ h => h) (Or.inl ⟨by rfl, ?_⟩) (by assumption) ?_
                rotate_left 1
                · (intro wS hSw; (try dsimp only at hSw); go_simp; try with_reducible rfl)
                try simp only [List.getElem_toArray, List.getElem_cons_zero, List.getElem_cons_succ, Act.put, List.setIfInBounds_toArray, List.set_cons_zero, List.set_cons_succ]
                refine wpAnyH_take (i := 2) (v := ?_) rfl (by kernel_rfl) (by kernel_rfl) (by kernel_rfl) (fun _ _ _ h => h) (Or.inl ⟨by rfl, ?_⟩) (by assumption) ?_
                rotate_left 1
                · (intro wS hSw; (try dsimp only at hSw); go_simp; try with_reducible rfl)
                try simp only [List.getElem_toArray, List.getElem_cons_zero, List.getElem_cons_succ, Act.put, List.setIfInBounds_toArray, List.set_cons_zero, List.set_cons_succ]
                refine wpAnyH_take (i := 3) (v := ?_) rfl (by kernel_rfl) (by kernel_rfl) (by kernel_rfl) (fun _ _ _ h => h) (Or.inl ⟨by rfl, ?_⟩) (by assumption) ?_
                rotate_left 1
                · (intro wS hSw; (try dsimp only at hSw); go_simp; try with_reducible rfl)
                try simp only [List.getElem_toArray, List.getElem_cons_zero, List.getElem_cons_succ, Act.put, List.setIfInBounds_toArray, List.set_cons_zero, List.set_cons_succ]
                refine wpAnyH_take (i := 4) (v := ?_) rfl (by kernel_rfl) (by kernel_rfl) (by kernel_rfl) (fun _ _ _ h => h) (Or.inl ⟨by rfl, ?_⟩) (by assumption) ?_
                rotate_left 1
                · (intro wS hSw; (try dsimp only at hSw); go_simp; try with_reducible rfl)
                try simp only [List.getElem_toArray, List.getElem_cons_zero, List.getElem_cons_succ, Act.put, List.setIfInBounds_toArray, List.set_cons_zero, List.set_cons_succ]
                refine wpAnyH_take (i := 5) (v := ?_) rfl (by kernel_rfl) (by kernel_rfl) (by kernel_rfl) (fun _ _ _ h => h) (Or.inl ⟨by rfl, ?_⟩) (by assumption) ?_
                rotate_left 1
                · (intro wS hSw; (try dsimp only at hSw); go_simp; try with_reducible rfl)
                try simp only [List.getElem_toArray, List.getElem_cons_zero, List.getElem_cons_succ, Act.put, List.setIfInBounds_toArray, List.set_cons_zero, List.set_cons_succ]
                refine wpAnyH_take (i := 6) (v := ?_) rfl (by kernel_rfl) (by kernel_rfl) (by kernel_rfl) (fun _ _ _ h => h) (Or.inl ⟨by rfl, ?_⟩) (by assumption) ?_
                rotate_left 1
                · (intro wS hSw; (try dsimp only at hSw); go_simp; try with_reducible rfl)
                try simp only [List.getElem_toArray, List.getElem_cons_zero, List.getElem_cons_succ, Act.put, List.setIfInBounds_toArray, List.set_cons_zero, List.set_cons_succ]
                refine wpAnyH_take (i := 7) (v := ?_) rfl (by kernel_rfl) (by kernel_rfl) (by kernel_rfl) (fun _ _ _ h => h) (Or.inl ⟨by rfl, ?_⟩) (by assumption) ?_
                rotate_left 1
                · (intro wS hSw; (try dsimp only at hSw); go_simp; try with_reducible rfl)
                try simp only [List.getElem_toArray, List.getElem_cons_zero, List.getElem_cons_succ, Act.put, List.setIfInBounds_toArray, List.set_cons_zero, List.set_cons_succ]
                refine wpAnyH_take (i := 8) (v := ?_) rfl (by kernel_rfl) (by kernel_rfl) (by kernel_rfl) (fun _ _ _ h => h) (Or.inl ⟨by rfl, ?_⟩) (by assumption) ?_
                rotate_left 1
                · (intro wS hSw; (try dsimp only at hSw); go_simp; try with_reducible rfl)
                try simp only [List.getElem_toArray, List.getElem_cons_zero, List.getElem_cons_succ, Act.put, List.setIfInBounds_toArray, List.set_cons_zero, List.set_cons_succ]
                refine wpAnyH_take (i := 9) (v := ?_) rfl (by kernel_rfl) (by kernel_rfl) (by kernel_rfl) (fun _ _ _ h => h) (Or.inl ⟨by rfl, ?_⟩) (by assumption) ?_
                rotate_left 1
                · (intro wS hSw; (try dsimp only at hSw); go_simp; try with_reducible rfl)
                try simp only [List.getElem_toArray, List.getElem_cons_zero, List.getElem_cons_succ, Act.put, List.setIfInBounds_toArray, List.set_cons_zero, List.set_cons_succ]
                refine wpAnyH_take (i := 10) (v := undef) rfl (by kernel_rfl) (by kernel_rfl) (by kernel_rfl) (fun _ _ _ h => h) (Or.inr ⟨by rfl, rfl⟩) (by assumption) ?_
                try simp only [List.getElem_toArray, List.getElem_cons_zero, List.getElem_cons_succ, Act.put, List.setIfInBounds_toArray, List.set_cons_zero, List.set_cons_succ]
                refine wpAnyH_take (i := 11) (v := undef) rfl (by kernel_rfl) (by kernel_rfl) (by kernel_rfl) (fun _ _ _ h => h) (Or.inr ⟨by rfl, rfl⟩) (by assumption) ?_
                try simp only [List.getElem_toArray, List.getElem_cons_zero, List.getElem_cons_succ, Act.put, List.setIfInBounds_toArray, List.set_cons_zero, List.set_cons_succ]
                refine wpAnyH_take (i := 12) (v := undef) rfl (by kernel_rfl) (by kernel_rfl) (by kernel_rfl) (fun _ _ _ h => h) (Or.inr ⟨by rfl, rfl⟩) (by assumption) ?_
                try simp only [List.getElem_toArray, List.getElem_cons_zero, List.getElem_cons_succ, Act.put, List.setIfInBounds_toArray, List.set_cons_zero, List.set_cons_succ]
                refine wpAnyH_take (i := 13) (v := undef) rfl (by kernel_rfl) (by kernel_rfl) (by kernel_rfl) (fun _ _ _ h => h) (Or.inr ⟨by rfl, rfl⟩) (by assumption) ?_
                try simp only [List.getElem_toArray, List.getElem_cons_zero, List.getElem_cons_succ, Act.put, List.setIfInBounds_toArray, List.set_cons_zero, List.set_cons_succ]
                refine wpAnyH_take (i := 14) (v := undef) rfl (by kernel_rfl) (by kernel_rfl) (by kernel_rfl) (fun _ _ _ h => h) (Or.inr ⟨by rfl, rfl⟩) (by assumption) ?_
                try simp only [List.getElem_toArray, List.getElem_cons_zero, List.getElem_cons_succ, Act.put, List.setIfInBounds_toArray, List.set_cons_zero, List.set_cons_succ]
                refine wpAnyH_take (i := 15) (v := undef) rfl (by kernel_rfl) (by kernel_rfl) (by kernel_rfl) (fun _ _ _ h => h) (Or.inr ⟨by rfl, rfl⟩) (by assumption) ?_
                try simp only [List.getElem_toArray, List.getElem_cons_zero, List.getElem_cons_succ, Act.put, List.setIfInBounds_toArray, List.set_cons_zero, List.set_cons_succ]
                refine wpAnyH_take (i := 16) (v := undef) rfl (by kernel_rfl) (by kernel_rfl) (by kernel_rfl) (fun _ _ _ h => h) (Or.inr ⟨by rfl, rfl⟩) (by assumption) ?_
                try simp only [List.getElem_toArray, List.getElem_cons_zero, List.getElem_cons_succ, Act.put, List.setIfInBounds_toArray, List.set_cons_zero, List.set_cons_succ]
                refine wpAnyH_take (i := 17) (v := undef) rfl (by kernel_rfl) (by kernel_rfl) (by kernel_rfl) (fun _ _ _ h => h) (Or.inr ⟨by rfl, rfl⟩) (by assumption) ?_
                try simp only [List.getElem_toArray, List.getElem_cons_zero, List.getElem_cons_succ, Act.put, List.setIfInBounds_toArray, List.set_cons_zero, List.set_cons_succ]
                refine wpAnyH_take (i := 18) (v := undef) rfl (by kernel_rfl) (by kernel_rfl) (by kernel_rfl) (fun _ _ _ h => h) (Or.inr ⟨by rfl, rfl⟩) (by assumption) ?_
                try simp only [List.getElem_toArray, List.getElem_cons_zero, List.getElem_cons_succ, Act.put, List.setIfInBounds_toArray, List.set_cons_zero, List.set_cons_succ]
                refine wpAnyH_take (i := 19) (v := ?_) rfl (by kernel_rfl) (by kernel_rfl) (by kernel_rfl) (fun _ _ _ h => h) (Or.inl ⟨by rfl, ?_⟩) (by assumption) ?_
                rotate_left 1
                · (intro wS hSw; (try dsimp only at hSw); go_simp; try with_reducible rfl)
                try simp only [List.getElem_toArray, List.getElem_cons_zero, List.getElem_cons_succ, Act.put, List.setIfInBounds_toArray, List.set_cons_zero, List.set_cons_succ]
                refine wpAnyH_take (i := 20) (v := ?_) rfl (by kernel_rfl) (by kernel_rfl) (by kernel_rfl) (fun _ _ _ h => h) (Or.inl ⟨by rfl, ?_⟩) (by assumption) ?_
                rotate_left 1
                · (intro wS hSw; (try dsimp only at hSw); go_simp; try with_reducible rfl)
                try simp only [List.getElem_toArray, List.getElem_cons_zero, List.getElem_cons_succ, Act.put, List.setIfInBounds_toArray, List.set_cons_zero, List.set_cons_succ]
                refine wpAnyH_take (i := 21) (v := ?_) rfl (by kernel_rfl) (by kernel_rfl) (by kernel_rfl) (fun _ _ _ h => h) (Or.inl ⟨by rfl, ?_⟩) (by assumption) ?_
                rotate_left 1
                · (intro wS hSw; (try dsimp only at hSw); go_simp; try with_reducible rfl)
                try simp only [List.getElem_toArray, List.getElem_cons_zero, List.getElem_cons_succ, Act.put, List.setIfInBounds_toArray, List.set_cons_zero, List.set_cons_succ]
                refine wpAnyH_take (i := 22) (v := ?_) rfl (by kernel_rfl) (by kernel_rfl) (by kernel_rfl) (fun _ _ _ h => h) (Or.inl ⟨by rfl, ?_⟩) (by assumption) ?_
                rotate_left 1
                · (intro wS hSw; (try dsimp only at hSw); go_simp; try with_reducible rfl)
                try simp only [List.getElem_toArray, List.getElem_cons_zero, List.getElem_cons_succ, Act.put, List.setIfInBounds_toArray, List.set_cons_zero, List.set_cons_succ]
                refine wpAnyH_take (i := 23) (v := ?_) rfl (by kernel_rfl) (by kernel_rfl) (by kernel_rfl) (fun _ _ _ h => h) (Or.inl ⟨by rfl, ?_⟩) (by assumption) ?_
                rotate_left 1
                · (intro wS hSw; (try dsimp only at hSw); go_simp; try with_reducible rfl)
                try simp only [List.getElem_toArray, List.getElem_cons_zero, List.getElem_cons_succ, Act.put, List.setIfInBounds_toArray, List.set_cons_zero, List.set_cons_succ]
                refine wpAnyH_take (i := 24) (v := ?_) rfl (by kernel_rfl) (by kernel_rfl) (by kernel_rfl) (fun _ _ _ h => h) (Or.inl ⟨by rfl, ?_⟩) (by assumption) ?_
                rotate_left 1
                · (intro wS hSw; (try dsimp only at hSw); go_simp; try with_reducible rfl)
                try simp only [List.getElem_toArray, List.getElem_cons_zero, List.getElem_cons_succ, Act.put, List.setIfInBounds_toArray, List.set_cons_zero, List.set_cons_succ]
                refine wpAnyH_take (i := 25) (v := ?_) rfl (by kernel_rfl) (by kernel_rfl) (by kernel_rfl) (fun _ _ _ h => h) (Or.inl ⟨by rfl, ?_⟩) (by assumption) ?_
                rotate_left 1
                · (intro wS hSw; (try dsimp only at hSw); go_simp; try with_reducible rfl)
                try simp only [List.getElem_toArray, List.getElem_cons_zero, List.getElem_cons_succ, Act.put, List.setIfInBounds_toArray, List.set_cons_zero, List.set_cons_succ]
                refine wpAnyH_take (i := 26) (v := ?_) rfl (by kernel_rfl) (by kernel_rfl) (by kernel_rfl) (fun _ _ _ h => h) (Or.inl ⟨by rfl, ?_⟩) (by assumption) ?_
                rotate_left 1
                · (intro wS hSw; (try dsimp only at hSw); go_simp; try with_reducible rfl)
                try simp only [List.getElem_toArray, List.getElem_cons_zero, List.getElem_cons_succ, Act.put, List.setIfInBounds_toArray, List.set_cons_zero, List.set_cons_succ]
                refine wpAnyH_take (i := 27) (v := ?_) rfl (by kernel_rfl) (by kernel_rfl) (by kernel_rfl) (fun _ _ _ h => h) (Or.inl ⟨by rfl, ?_⟩) (by assumption) ?_
                rotate_left 1
                · (intro wS hSw; (try dsimp only at hSw); go_simp; try with_reducible rfl)
                try simp only [List.getElem_toArray, List.getElem_cons_zero, List.getElem_cons_succ, Act.put, List.setIfInBounds_toArray, List.set_cons_zero, List.set_cons_succ]
                refine wpAnyH_take (i := 28) (v := ?_) rfl (by kernel_rfl) (by kernel_rfl) (by kernel_rfl) (fun _ _ _ h => h) (Or.inl ⟨by rfl, ?_⟩) (by assumption) ?_
                rotate_left 1
                · (intro wS hSw; (try dsimp only at hSw); go_simp; try with_reducible rfl)
                try simp only [List.getElem_toArray, List.getElem_cons_zero, List.getElem_cons_succ, Act.put, List.setIfInBounds_toArray, List.set_cons_zero, List.set_cons_succ]
                refine wpAnyH_done (by kernel_rfl) ?_ _
                refine NoPanic.normal ?_
                go_wp2_with fail
                go_roundw
                case rel => exact ⟨j + 1, by go_num, by omega, HB9.out.drew⟩
                case measure => simp [intOf]; omega
              · have hp := HP1.out rfl
                have HPP := Lib.hid hp.symm
                clear hp
                have hj10 : j < 10 := by omega
                have hd1 : (Lib.decDigits j).length ≤ 100 := by rw [digs_one j hj10]; simp
                obtain ⟨dj, hdj⟩ : ∃ d, Lib.decDigits j = d := ⟨_, rfl⟩
                have hPP := HPP.out
                rw [hdj] at hd1 hPP
                obtain ⟨ft, hft⟩ : ∃ ft, blkLabel dj = ft := ⟨_, rfl⟩
                have hf5 : 98 :: 108 :: 111 :: 99 :: 107 :: dj = ft := hft
                have hfl : ft.length ≤ 60000 := by rw [← hft]; simp [blkLabel]; omega
                rw [hft] at hPP
                obtain ⟨x, hx⟩ : ∃ x, deriveP k.1 k.2 ft = x := ⟨_, rfl⟩
                rw [hx] at hPP
                have hl1 : ¬ 9223372036854775807 < 5 + dj.length := by omega
                have HDJ := Lib.hid hdj; have HX := Lib.hid hx; have HPE := Lib.hid hPP
                clear hdj hft hx hPP HPP
                go_upto_region 20 with fail
                have bD : Below w9.heap.size w9 w9.drew := (Below.refl _ _).drew
                refine wp_region_noPanic ?_
                refine wp_region_held_drew (S := (fun w' => w'.cell? ⟨ka, 0, none⟩ = some (.int .u64 k.1) ∧ w'.cell? ⟨ka, 1, none⟩ = some (.int .u64 k.2))) (by kernel_rfl) (⟨e0, e3⟩) (fun hHeld => ?_)
                refine wpAnyH_take (i := 0) (v := ?_) rfl (by kernel_rfl) (by kernel_rfl) (by kernel_rfl) (fun _ _ _ h => h) (Or.inl ⟨by rfl, ?_⟩) (by assumption) ?_
                rotate_left 1
                · (intro wS hSw; (try dsimp only at hSw); go_simp; try with_reducible rfl)
                try simp only [List.getElem_toArray, List.getElem_cons_zero, List.getElem_cons_succ, Act.put, List.setIfInBounds_toArray, List.set_cons_zero, List.set_cons_succ]
                refine wpAnyH_take (i := 1) (v := ?_) rfl (by kernel_rfl) (by kernel_rfl) (by kernel_rfl) (fun _ _ _ h => h) (Or.inl ⟨by rfl, ?_⟩) (by assumption) ?_
                rotate_left 1
                · (intro wS hSw; (try dsimp only at hSw); go_simp; try with_reducible rfl)
                try simp only [List.getElem_toArray, List.getElem_cons_zero, List.getElem_cons_succ, Act.put, List.setIfInBounds_toArray, List.set_cons_zero, List.set_cons_succ]
                refine wpAnyH_take (i := 2) (v := ?_) rfl (by kernel_rfl) (by kernel_rfl) (by kernel_rfl) (fun _ _ _ h => h) (Or.inl ⟨by rfl, ?_⟩) (by assumption) ?_
                rotate_left 1
                · (intro wS hSw; (try dsimp only at hSw); go_simp; try with_reducible rfl)
                try simp only [List.getElem_toArray, List.getElem_cons_zero, List.getElem_cons_succ, Act.put, List.setIfInBounds_toArray, List.set_cons_zero, List.set_cons_succ]
                refine wpAnyH_take (i := 3) (v := ?_) rfl (by kernel_rfl) (by kernel_rfl) (by kernel_rfl) (fun _ _ _ h => h) (Or.inl ⟨by rfl, ?_⟩) (by assumption) ?_
                rotate_left 1
                · (intro wS hSw; (try dsimp only at hSw); go_simp; try with_reducible rfl)
                try simp only [List.getElem_toArray, List.getElem_cons_zero, List.getElem_cons_succ, Act.put, List.setIfInBounds_toArray, List.set_cons_zero, List.set_cons_succ]
                refine wpAnyH_take (i := 4) (v := ?_) rfl (by kernel_rfl) (by kernel_rfl) (by kernel_rfl) (fun _ _ _ h => h) (Or.inl ⟨by rfl, ?_⟩) (by assumption) ?_
                rotate_left 1
                · (intro wS hSw; (try dsimp only at hSw); go_simp; try with_reducible rfl)
                try simp only [List.getElem_toArray, List.getElem_cons_zero, List.getElem_cons_succ, Act.put, List.setIfInBounds_toArray, List.set_cons_zero, List.set_cons_succ]
                refine wpAnyH_take (i := 5) (v := ?_) rfl (by kernel_rfl) (by kernel_rfl) (by kernel_rfl) (fun _ _ _ h => h) (Or.inl ⟨by rfl, ?_⟩) (by assumption) ?_
                rotate_left 1
                · (intro wS hSw; (try dsimp only at hSw); go_simp; try with_reducible rfl)
                try simp only [List.getElem_toArray, List.getElem_cons_zero, List.getElem_cons_succ, Act.put, List.setIfInBounds_toArray, List.set_cons_zero, List.set_cons_succ]
                refine wpAnyH_take (i := 6) (v := ?_) rfl (by kernel_rfl) (by kernel_rfl) (by kernel_rfl) (fun _ _ _ h => h) (Or.inl ⟨by rfl, ?_⟩) (by assumption) ?_
                rotate_left 1
                · (intro wS hSw; (try dsimp only at hSw); go_simp; try with_reducible rfl)
                try simp only [List.getElem_toArray, List.getElem_cons_zero, List.getElem_cons_succ, Act.put, List.setIfInBounds_toArray, List.set_cons_zero, List.set_cons_succ]
                refine wpAnyH_take (i := 7) (v := ?_) rfl (by kernel_rfl) (by kernel_rfl) (by kernel_rfl) (fun _ _ _ h => h) (Or.inl ⟨by rfl, ?_⟩) (by assumption) ?_
                rotate_left 1
                · (intro wS hSw; (try dsimp only at hSw); go_simp; try with_reducible rfl)
                try simp only [List.getElem_toArray, List.getElem_cons_zero, List.getElem_cons_succ, Act.put, List.setIfInBounds_toArray, List.set_cons_zero, List.set_cons_succ]
                refine wpAnyH_take (i := 8) (v := ?_) rfl (by kernel_rfl) (by kernel_rfl) (by kernel_rfl) (fun _ _ _ h => h) (Or.inl ⟨by rfl, ?_⟩) (by assumption) ?_
                rotate_left 1
                · (intro wS hSw; (try dsimp only at hSw); go_simp; try with_reducible rfl)
                try simp only [List.getElem_toArray, List.getElem_cons_zero, List.getElem_cons_succ, Act.put, List.setIfInBounds_toArray, List.set_cons_zero, List.set_cons_succ]
                refine wpAnyH_take (i := 9) (v := ?_) rfl (by kernel_rfl) (by kernel_rfl) (by kernel_rfl) (fun _ _ _ h => h) (Or.inl ⟨by rfl, ?_⟩) (by assumption) ?_
                rotate_left 1
                · (intro wS hSw; (try dsimp only at hSw); go_simp; try with_reducible rfl)
                try simp only [List.getElem_toArray, List.getElem_cons_zero, List.getElem_cons_succ, Act.put, List.setIfInBounds_toArray, List.set_cons_zero, List.set_cons_succ]
                refine wpAnyH_take (i := 10) (v := ?_) rfl (by kernel_rfl) (by kernel_rfl) (by kernel_rfl) (fun _ _ _ h => h) (Or.inl ⟨by rfl, ?_⟩) (by assumption) ?_
                rotate_left 1
                · (intro wS hSw; (try dsimp only at hSw); go_simp; try with_reducible rfl)
                try simp only [List.getElem_toArray, List.getElem_cons_zero, List.getElem_cons_succ, Act.put, List.setIfInBounds_toArray, List.set_cons_zero, List.set_cons_succ]
                refine wpAnyH_take (i := 11) (v := ?_) rfl (by kernel_rfl) (by kernel_rfl) (by kernel_rfl) (fun _ _ _ h => h) (Or.inl ⟨by rfl, ?_⟩) (by assumption) ?_
                rotate_left 1
                · (intro wS hSw; (try dsimp only at hSw); go_simp; try with_reducible rfl)
                try simp only [List.getElem_toArray, List.getElem_cons_zero, List.getElem_cons_succ, Act.put, List.setIfInBounds_toArray, List.set_cons_zero, List.set_cons_succ]
                refine wpAnyH_take (i := 12) (v := ?_) rfl (by kernel_rfl) (by kernel_rfl) (by kernel_rfl) (fun _ _ _ h => h) (Or.inl ⟨by rfl, ?_⟩) (by assumption) ?_
                rotate_left 1
                · (intro wS hSw; (try dsimp only at hSw); go_simp; try with_reducible rfl)
                try simp only [List.getElem_toArray, List.getElem_cons_zero, List.getElem_cons_succ, Act.put, List.setIfInBounds_toArray, List.set_cons_zero, List.set_cons_succ]
                refine wpAnyH_take (i := 16) (v := ?_) rfl (by kernel_rfl) (by kernel_rfl) (by kernel_rfl) (fun _ _ _ h => h) (Or.inl ⟨by rfl, ?_⟩) (by assumption) ?_
                rotate_left 1
                · (intro wS hSw; (try dsimp only at hSw); go_simp; try with_reducible rfl)
                try simp only [List.getElem_toArray, List.getElem_cons_zero, List.getElem_cons_succ, Act.put, List.setIfInBounds_toArray, List.set_cons_zero, List.set_cons_succ]
                refine wpAnyH_ready (rs := [13]) (by kernel_rfl) (by simp) ?_
                refine AllReadyH.cons rfl (fun K hK => ?_) AllReadyH.nil
                go_simp
                refine (rnumber_one j _ hj10).mono ?_; rw [HDJ.out]; rintro e wq ⟨rfl, hb⟩; have b1 := bD.trans hb; clear hb
                refine hK.out _ _ (⟨(b1.cell (p := ⟨ka, 0, none⟩) lk).trans e0, (b1.cell (p := ⟨ka, 1, none⟩) lk).trans e3⟩) (fun hHeld => ?_)
                clear hK K
                try simp only [List.getElem_toArray, List.getElem_cons_zero, List.getElem_cons_succ, Act.put, List.setIfInBounds_toArray, List.set_cons_zero, List.set_cons_succ]
                refine wpAnyH_take (i := 14) (v := ?_) rfl (by kernel_rfl) (by kernel_rfl) (by kernel_rfl) (fun _ _ _ h => h) (Or.inl ⟨by rfl, ?_⟩) (by assumption) ?_
                rotate_left 1
                · (intro wS hSw; (try dsimp only at hSw); go_simp; try with_reducible rfl)
                try simp only [List.getElem_toArray, List.getElem_cons_zero, List.getElem_cons_succ, Act.put, List.setIfInBounds_toArray, List.set_cons_zero, List.set_cons_succ]
                refine wpAnyH_ready (rs := [15]) (by kernel_rfl) (by simp) ?_
                refine AllReadyH.cons rfl (fun K hK => ?_) AllReadyH.nil
                go_simp
                refine (rderive_any k.1 k.2 ft _ hfl).mono ?_; rw [HX.out]; rintro e w3 ⟨rfl, hb⟩; have b3 := b1.trans (hb.mono b1.size); clear hb
                refine hK.out _ _ (⟨(b3.cell (p := ⟨ka, 0, none⟩) lk).trans e0, (b3.cell (p := ⟨ka, 1, none⟩) lk).trans e3⟩) (fun hHeld => ?_)
                clear hK K
                try simp only [List.getElem_toArray, List.getElem_cons_zero, List.getElem_cons_succ, Act.put, List.setIfInBounds_toArray, List.set_cons_zero, List.set_cons_succ]
                refine wpAnyH_ready (rs := [17]) (by kernel_rfl) (by simp) ?_
                refine AllReadyH.cons rfl (fun K hK => ?_) AllReadyH.nil
                go_simp
                refine (rsparts_any (fun b => W8.heap.size ≤ b) x.1 x.2 _ L _ (HVL9.out.below b3) HLs.out hLl).mono ?_; rw [HPE.out]; rintro e w4 ⟨rfl, hb⟩; have b4 := b3.trans (hb.mono b3.size); clear hb
                refine hK.out _ _ (⟨(b4.cell (p := ⟨ka, 0, none⟩) lk).trans e0, (b4.cell (p := ⟨ka, 1, none⟩) lk).trans e3⟩) (fun hHeld => ?_)
                clear hK K
                try simp only [List.getElem_toArray, List.getElem_cons_zero, List.getElem_cons_succ, Act.put, List.setIfInBounds_toArray, List.set_cons_zero, List.set_cons_succ]
                refine wpAnyH_take (i := 18) (v := ?_) rfl (by kernel_rfl) (by kernel_rfl) (by kernel_rfl) (fun _ _ _ h => h) (Or.inl ⟨by rfl, ?_⟩) (by assumption) ?_
                rotate_left 1
                · (intro wS hSw; (try dsimp only at hSw); go_simp; try with_reducible rfl)
                try simp only [List.getElem_toArray, List.getElem_cons_zero, List.getElem_cons_succ, Act.put, List.setIfInBounds_toArray, List.set_cons_zero, List.set_cons_succ]
                refine wpAnyH_take (i := 19) (v := ?_) rfl (by kernel_rfl) (by kernel_rfl) (by kernel_rfl) (fun _ _ _ h => h) (Or.inl ⟨by rfl, ?_⟩) (by assumption) ?_
                rotate_left 1
                · (intro wS hSw; (try dsimp only at hSw); go_simp; try with_reducible rfl)
                try simp only [List.getElem_toArray, List.getElem_cons_zero, List.getElem_cons_succ, Act.put, List.setIfInBounds_toArray, List.set_cons_zero, List.set_cons_succ]
                refine wpAnyH_take (i := 20) (v := ?_) rfl (by kernel_rfl) (by kernel_rfl) (by kernel_rfl) (fun _ _ _ h => h) (Or.inl ⟨by rfl, ?_⟩) (by assumption) ?_
                rotate_left 1
                · (intro wS hSw; (try dsimp only at hSw); go_simp; try with_reducible rfl)
                try simp only [List.getElem_toArray, List.getElem_cons_zero, List.getElem_cons_succ, Act.put, List.setIfInBounds_toArray, List.set_cons_zero, List.set_cons_succ]
                refine wpAnyH_take (i := 21) (v := ?_) rfl (by kernel_rfl) (by kernel_rfl) (by kernel_rfl) (fun _ _ _ h => h) (Or.inl ⟨by rfl, ?_⟩) (by assumption) ?_
                rotate_left 1
                · (intro wS hSw; (try dsimp only at hSw); go_simp; try with_reducible rfl)
                try simp only [List.getElem_toArray, List.getElem_cons_zero, List.getElem_cons_succ, Act.put, List.setIfInBounds_toArray, List.set_cons_zero, List.set_cons_succ]
                refine wpAnyH_take (i := 22) (v := ?_) rfl (by kernel_rfl) (by kernel_rfl) (by kernel_rfl) (fun _ _ _ h => h) (Or.inl ⟨by rfl, ?_⟩) (by assumption) ?_
                rotate_left 1
                · (intro wS hSw; (try dsimp only at hSw); go_simp; try with_reducible rfl)
                try simp only [List.getElem_toArray, List.getElem_cons_zero, List.getElem_cons_succ, Act.put, List.setIfInBounds_toArray, List.set_cons_zero, List.set_cons_succ]
                refine wpAnyH_take (i := 23) (v := ?_) rfl (by kernel_rfl) (by kernel_rfl) (by kernel_rfl) (fun _ _ _ h => h) (Or.inl ⟨by rfl, ?_⟩) (by assumption) ?_
                rotate_left 1
                · (intro wS hSw; (try dsimp only at hSw); go_simp; try with_reducible rfl)
                try simp only [List.getElem_toArray, List.getElem_cons_zero, List.getElem_cons_succ, Act.put, List.setIfInBounds_toArray, List.set_cons_zero, List.set_cons_succ]
                refine wpAnyH_take (i := 24) (v := ?_) rfl (by kernel_rfl) (by kernel_rfl) (by kernel_rfl) (fun _ _ _ h => h) (Or.inl ⟨by rfl, ?_⟩) (by assumption) ?_
                rotate_left 1
                · (intro wS hSw; (try dsimp only at hSw); go_simp; try with_reducible rfl)
                try simp only [List.getElem_toArray, List.getElem_cons_zero, List.getElem_cons_succ, Act.put, List.setIfInBounds_toArray, List.set_cons_zero, List.set_cons_succ]
                refine wpAnyH_take (i := 25) (v := undef) rfl (by kernel_rfl) (by kernel_rfl) (by kernel_rfl) (fun _ _ _ h => h) (Or.inr ⟨by rfl, rfl⟩) (by assumption) ?_
                try simp only [List.getElem_toArray, List.getElem_cons_zero, List.getElem_cons_succ, Act.put, List.setIfInBounds_toArray, List.set_cons_zero, List.set_cons_succ]
                refine wpAnyH_take (i := 26) (v := undef) rfl (by kernel_rfl) (by kernel_rfl) (by kernel_rfl) (fun _ _ _ h => h) (Or.inr ⟨by rfl, rfl⟩) (by assumption) ?_
                try simp only [List.getElem_toArray, List.getElem_cons_zero, List.getElem_cons_succ, Act.put, List.setIfInBounds_toArray, List.set_cons_zero, List.set_cons_succ]
                refine wpAnyH_take (i := 27) (v := ?_) rfl (by kernel_rfl) (by kernel_rfl) (by kernel_rfl) (fun _ _ _ h => h) (Or.inl ⟨by rfl, ?_⟩) (by assumption) ?_
                rotate_left 1
                · (intro wS hSw; (try dsimp only at hSw); go_simp; try with_reducible rfl)
                try simp only [List.getElem_toArray, List.getElem_cons_zero, List.getElem_cons_succ, Act.put, List.setIfInBounds_toArray, List.set_cons_zero, List.set_cons_succ]
                refine wpAnyH_take (i := 28) (v := ?_) rfl (by kernel_rfl) (by kernel_rfl) (by kernel_rfl) (fun _ _ _ h => h) (Or.inl ⟨by rfl, ?_⟩) (by assumption) ?_
                rotate_left 1
                · (intro wS hSw; (try dsimp only at hSw); go_simp; try with_reducible rfl)
                try simp only [List.getElem_toArray, List.getElem_cons_zero, List.getElem_cons_succ, Act.put, List.setIfInBounds_toArray, List.set_cons_zero, List.set_cons_succ]
                refine wpAnyH_done (by kernel_rfl) ?_ _
                refine NoPanic.normal ?_
                go_wp2_with fail
                go_roundw
                case rel => exact ⟨j + 1, by go_num, by omega, HB9.out.trans (b4.mono HB9.out.size)⟩
                case measure => simp [intOf]; omega
        · have hq : decide ((j : Int) < (Ks.length : Int)) = false := by simp; omega
          obtain rfl : j = Ks.length := by omega
          have KE := Lib.hid (KC.out.below hbw)
          obtain ⟨q0, q1, q2, q3⟩ := cellsS KE.out.b
          obtain ⟨e0, e3⟩ := cells2K KE.out.kk
          obtain ⟨x0, x1, x2⟩ := cells3 (blk_below hbw (lt_of_blk HGA.out) HGA.out)
          go_wp2_with fail
          refine (bHash_out (fun b => Wd.heap.size ≤ b) (fun b => Wd.heap.size ≤ b) (.slice af N cf) (.slice at' s.rules.titles.length ct) (.slice an s.rules.nicks.length cn) (.slice as' s.rules.streets.length cs) (.slice ak Ks.length ck) (.bool false) s k Ks #[] Ks.length wo KE.out.s KE.out.ks HSD.out.check HL1000.out HKO.out (Nat.le_refl _) (by omega) r.id r.ver (.slice aa r.vals.length ca)).mono ?_
          rintro e w9 ⟨rfl, hb⟩
          have hbz := hbw.trans (hb.mono hbw.size)
          clear hb q0 q1 q2 q3 e0 e3 x0 x1 x2
          go_wp2_with fail
          go_ret
          exact ⟨rfl, (KC.out.below hbz).m.base HB1.out (by omega)⟩
  · have hd : decide (n ≤ 400) = false := by simpa using hn
    clear hr hn
    go_enter Tryz.func3, Tryz.ntmps3
    go_wp2_with fail
    refine (awake_b _).mono ?_; rintro e w1 ⟨rfl, hb1⟩
    go_wp2_with fail
    refine (few_any a n cap _).mono ?_; rintro e w' ⟨rfl, rfl⟩
    go_wp2_with fail
    refine (awake_b _).mono ?_; rintro e w2 ⟨rfl, hb2⟩
    go_wp2_with fail
    go_ret
    exact ⟨rfl, hb1.trans (hb2.mono hb1.size)⟩
end Go.Proofs.YthdolmofeeniaaaGreatDoor
end
section
namespace Go.Proofs.YthdolmofeeniaaaGreatDoor.blockingHashes
open Go.ChangeShapes Go.WideShapes Go.ChangeAt Go.RowKit Go.Joins
open Go.ChangeMaps (open_string shut_string)
set_option linter.unusedVariables false

theorem own : ownKnob Tryz.prog.godebug = none := by kernel_rfl
theorem laidOut : laidOutB Tryz.prog = true := by kernel_rfl

set_option maxRecDepth 100000 in
theorem lifted (os : Os) (started : os.Started) (H : Type) (enc : TypeId × Value → H) :
    ReturnsInHanded {} Tryz.checked os 3 .any (fun w args => (Rows.blockingHashesSpec.pre enc Tryz.prog Tryz.f3 Rows.blockingHashesRow.domain false w args ∧ laidMetH Tryz.prog Rows.blockingHashesRow.laid w) ∧ sizedMet enc Tryz.prog Tryz.f3 (OpenSpec.ofChange Rows.blockingHashesSpec) false w args) (Rows.blockingHashesSpec.post enc Tryz.prog Tryz.f3 false true false false) := by
  refine returnsInHanded_of_change_and (C := Tryz.checked) (X := fun w _ => laidMetH Tryz.prog Rows.blockingHashesRow.laid w) (fun _ _ _ hh h => h.of_heap hh) own started (by kernel_rfl) Tryz.func3
    (ChangeSpec.witness_shaped (enc := enc) (C := Tryz.checked) (os := os) (X := fun w _ => laidMetH Tryz.prog Rows.blockingHashesRow.laid w) false (World.laidAll Tryz.prog os Rows.blockingHashesRow.laid) #[.slice none 0 0] 8 (World.laidAll_os _ _ _)
      (World.shaped_of_ZipB (by kernel_rfl) (by kernel_rfl)) (by kernel_rfl) (by kernel_rfl) (by kernel_rfl)
      (by rw [MakeChecks.laidMetH_plain _ _ _ (by kernel_rfl)]; exact laidMet_laidAll _ (by kernel_rfl) (by kernel_rfl))) ?_
  intro W base args ds gs before hval0 hW hcnd _ hLaid _
  have hval : ∀ (j : Nat) t v, Tryz.f3.params[j]? = some t → args[j]? = some v → Value.okWide Tryz.prog W .any base t v := hval0
  have hW' := hW
  obtain ⟨p, q, hA0, hV, rfl, hfz, hnd⟩ := hW
  have hA : DataW.TrodAll enc Tryz.prog W 0 (fun _ => true) true Tryz.f3.params.toList args.toList ds p := hA0
  rw [Tryz.params3] at hA hval
  obtain ⟨v0, vs0, d0, ds0, p0, q0, hargs, rfl, rfl, h0, r0⟩ := trodAll_cons hA
  obtain ⟨rfl, rfl, rfl⟩ := trodAll_nil r0
  obtain rfl : args = #[v0] := by cases args; simp_all
  obtain ⟨rfl, rfl⟩ := trodVars_none hV
  obtain ⟨a0, len0, cap0, rfl⟩ := okWide_slice Tryz.underlying22 (hval 0 22 v0 rfl rfl)
  have k0 := h0
  have lt0 : ∀ x ∈ p0, x.block < W.heap.size := by obtain ⟨m, hm⟩ := k0; exact DataW.trod_lt m _ _ _ hm
  obtain ⟨z0, w0⟩ : ∃ zs, IsRow .i64 W a0 len0 cap0 zs := by
    obtain ⟨fuel, hf⟩ := h0
    rcases open_ints Tryz.underlying22 Tryz.underlying3 (by kernel_rfl) hf with ⟨hcs, _⟩ | ⟨x, l, c, zs, hcs, _, hl, hm, hz, _, hcell, hwz⟩
    · simp [Value.cells] at hcs
      obtain ⟨rfl, rfl, rfl⟩ := hcs
      exact ⟨[], .inl ⟨rfl, rfl, rfl, rfl⟩⟩
    · simp [Value.cells] at hcs
      obtain ⟨rfl, rfl, rfl⟩ := hcs
      exact ⟨zs, .inr ⟨_, rfl, hl, hm, by simpa using hz, hcell, hwz⟩⟩
  clear hA0 hval0
  refine (bhashes_walk a0 len0 cap0 z0 W w0).mono fun e W' ⟨he, bel⟩ => ?_
  subst he
  exact ⟨_, rfl, _, _, _, [], _, [], hW', trodAll_mk1 (shut_bool Tryz.underlying4 _), (trodAll_cons_mk (Below.trod laidOut (by kernel_rfl) (of_decide_eq_true (by kernel_rfl)) k0 bel lt0) trodAll_mk0), rfl, bel.frame _, fun h => by cases h⟩

set_option maxRecDepth 100000 in
set_option maxHeartbeats 100000000 in
theorem over : Rows.blockingHashesRow.holds Tryz.pinned (OpenSpec.ofChange Rows.blockingHashesSpec) :=
  OpenClaim.holds_of_wide 3 Tryz.f3 rfl rfl rfl rfl rfl rfl rfl ⟨rfl, rfl, rfl, rfl, rfl⟩ rfl rfl rfl rfl rfl (by as_aux_lemma => kernel_rfl) Tryz.func3 closed
    (of_decide_eq_true (by as_aux_lemma => kernel_rfl)) (by unfold Func.isWrapper; first | (rw [if_pos (by decide +kernel)]; kernel_rfl) | (rw [if_neg (by decide +kernel)]; exact ⟨rfl, rfl⟩))
    (fun os started H enc _ => lifted os started H enc)

set_option maxRecDepth 100000 in
set_option maxHeartbeats 100000000 in
/-- THE STATEMENT -/
theorem proved : Rows.BlockingHashesCardSaid :=
  Claim7.holds_tied_plain_at .later [] [.data, .data, .data, .data, .pinned] true (true, "ee02a60bc0bbaedd87ad1e8f70337cb2d1cbae18b663667a79cf4cb9bab4ee39") true
    over (fun _ h => by cases h) (by as_aux_lemma => kernel_rfl) (fun _ h => by cases h) blockingHashes_row_tie rfl ⟨rfl, rfl⟩ (by as_aux_lemma => kernel_rfl) rfl
    (fun f fn hf hfn => by
      obtain rfl : f = 3 := Option.some.inj ((show Tryz.prog.funcNamed Rows.blockingHashesRow.func = some 3 by kernel_rfl).symm.trans hf) |>.symm
      obtain rfl : fn = Tryz.f3 := (Option.some.inj (Tryz.func3.symm.trans hfn)).symm
      exact ⟨by kernel_rfl, fun j t ht => by
        rw [Tryz.params3] at ht
        have hm : t ∈ [22] := by simpa using Array.mem_of_getElem? ht
        have hall : ([22].all fun u => !Tryz.prog.wantsStandIn u) = true := by kernel_rfl
        exact (show Tryz.prog.wantsStandIn t = false by simpa using List.all_eq_true.1 hall t hm)⟩)
    (by as_aux_lemma => kernel_rfl)
#print axioms proved
end Go.Proofs.YthdolmofeeniaaaGreatDoor.blockingHashes
end
