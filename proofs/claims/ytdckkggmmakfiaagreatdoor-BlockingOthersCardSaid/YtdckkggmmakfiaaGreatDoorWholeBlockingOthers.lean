/-
  For every input the law BlockingOthers returns true, and its arguments read afterwards as they read before; no condition.
-/
import Derived.Test.YtdckkggmmakfiaaGreatDoorPartBlocking8
import Derived.Test.YtdckkggmmakfiaaGreatDoorRows
import Derived.ProofKit
import Derived.JoinedOf
import Derived.WalkKit
import Derived.OpenShut
import Derived.ShutString
import Derived.ChangeOld
import Derived.Below
import Derived.Lib.SmallJoins
import Derived.Test.YtdckkggmmakfiaaGreatDoorCards
import Derived.Test.YtdckkggmmakfiaaGreatDoorTie
import Derived.LaidMore
import Derived.Lay
import Derived.SevenTiedAt
import Derived.Stop.Joined
section
/-
  The closed facts of the row of BlockingOthers, each a lemma of its own (so that the kernel gives its memory back behind each).
-/
namespace Go.Proofs.YtdckkggmmakfiaaGreatDoor.blockingOthers
theorem and_tt {a b : Bool} (h : a = true) (h' : b = true) : (a && b) = true := by rw [h, h']; rfl
set_option maxRecDepth 100000 in
set_option maxHeartbeats 100000000 in
theorem closed : joinedFacts Tryz.pinned.checked.prog 4 Tryz.f4 Rows.blockingOthersSpec Rows.blockingOthersRow = true := by
  unfold joinedFacts
  repeat' (with_reducible refine and_tt ?_ ?_)
  · as_aux_lemma => kernel_rfl
  · as_aux_lemma => kernel_rfl
  · as_aux_lemma => kernel_rfl
  · as_aux_lemma => kernel_rfl
  · as_aux_lemma => kernel_rfl
  · as_aux_lemma => kernel_rfl
  · as_aux_lemma => kernel_rfl
  · as_aux_lemma => kernel_rfl
  · as_aux_lemma => kernel_rfl
  · as_aux_lemma => kernel_rfl
  · as_aux_lemma => kernel_rfl
  · as_aux_lemma => kernel_rfl
  · as_aux_lemma => kernel_rfl
  · as_aux_lemma => kernel_rfl
  · as_aux_lemma => kernel_rfl
  · as_aux_lemma => kernel_rfl
  · as_aux_lemma => kernel_rfl
  · as_aux_lemma => kernel_rfl
  · as_aux_lemma => kernel_rfl
  · as_aux_lemma => kernel_rfl
  · as_aux_lemma => kernel_rfl
  · as_aux_lemma => kernel_rfl
  · as_aux_lemma => kernel_rfl
  · as_aux_lemma => kernel_rfl
  · as_aux_lemma => kernel_rfl
  · as_aux_lemma => kernel_rfl
  · as_aux_lemma => kernel_rfl
  · as_aux_lemma => kernel_rfl
  · as_aux_lemma => kernel_rfl
  · as_aux_lemma => kernel_rfl
  · as_aux_lemma => kernel_rfl
  · as_aux_lemma => kernel_rfl
end Go.Proofs.YtdckkggmmakfiaaGreatDoor.blockingOthers
end
section
/- The law BlockingOthers, walked: for every list of numbers and place it returns true and leaves what was there. -/
set_option linter.unusedSimpArgs false
set_option linter.unusedVariables false
set_option maxRecDepth 100000
namespace Go.Proofs.YtdckkggmmakfiaaGreatDoor
open Go.RowKit Cal
attribute [local go_sem] toList_mk mk_size bytes_append
theorem Vec.setS {w : World} {S : Nat → Prop} {g off n cap : Nat} {L : List (List UInt8)} (h : Vec w S 1 encS (.slice (some ⟨g, off, none⟩) n cap) L) (f : Nat) (hf : f < L.length) (x : List UInt8) : Vec (w.setCell ⟨g, off + f, none⟩ (strV x)) S 1 encS (.slice (some ⟨g, off, none⟩) n cap) (L.set f x) := by
  obtain ⟨a', cap', h1, h2, h3⟩ := h
  cases h1
  refine ⟨_, cap, by rw [List.length_set], by rw [List.length_set]; exact h2, fun h0 => ?_⟩
  rw [List.length_set] at h0
  obtain ⟨b, o, e, hS, hb, hc⟩ := h3 h0
  cases e
  refine ⟨g, off, rfl, hS, by simpa [World.setCell] using hb, fun j y hj i u hu => ?_⟩
  have hi : i = 0 ∧ u = strV y := by
    cases i with
    | zero => exact ⟨rfl, by simpa [encS] using hu.symm⟩
    | succ i => simp [encS] at hu
  obtain ⟨rfl, rfl⟩ := hi
  rw [Nat.mul_one, Nat.add_zero]
  by_cases hjf : j = f
  · subst hjf
    have hy : x = y := by rw [List.getElem?_set_self hf] at hj; exact Option.some.inj hj
    subst hy
    have h0 := hc j L[j] (List.getElem?_eq_getElem hf) 0 _ rfl
    rw [Nat.mul_one, Nat.add_zero] at h0
    exact World.cell?_setCell_same _ _ _ h0
  · have hj' : L[j]? = some y := by rwa [List.getElem?_set_ne (Ne.symm hjf)] at hj
    have h0 := hc j y hj' 0 _ rfl
    rw [Nat.mul_one, Nat.add_zero] at h0
    exact (World.cell?_setCell_other _ _ _ _ (by intro e; simp at e; all_goals exact hjf e)).trans h0
/-- a record with one value of another -/
theorem check_changed {s : SchemaL} {a b : RecL} {id ver : Int} {f : Nat} (ha : checkN s a = 0) (hb : checkN s b = 0) (sa : ∀ x ∈ a.vals, x.length ≤ 64) (sb : ∀ x ∈ b.vals, x.length ≤ 64) (hn : numberedB id ver = true) (hf : f < s.fields.length) :
    checkN s ⟨id, ver, a.vals.set f (b.vals.getD f [])⟩ = 0 ∧ ∀ x ∈ a.vals.set f (b.vals.getD f []), x.length ≤ 64 := by
  obtain ⟨c1, c2, c3, c4⟩ := checkN_ok ha
  obtain ⟨d1, d2, d3, d4⟩ := checkN_ok hb
  refine ⟨checkN_of c1 hn (by simpa using c3) (normA_of s _ 0 fun j hj => ?_), fun v hv => ?_⟩
  · rw [List.length_set] at hj
    by_cases h : j = f
    · subst h; rw [getD_set_self _ _ _ hj]; exact normA_get s _ 0 d4 j (by omega)
    · rw [getD_set _ _ _ _ h]; exact normA_get s _ 0 c4 j hj
  · rcases List.mem_or_eq_of_mem_set hv with h | h
    · exact sa v h
    · rw [h]
      have hf2 : f < b.vals.length := by omega
      rw [getD_at _ _ hf2]
      exact sb _ (List.getElem_mem hf2)
def usesB (f : Nat) (K : List (Int × Int)) : Bool := K.any fun c => c.1 == (f : Int)
theorem any_snoc {α : Type} (K : List α) (p : α → Bool) (j : Nat) (h : j < K.length) : (K.take (j + 1)).any p = ((K.take j).any p || p K[j]) := by
  rw [List.take_succ_eq_append_getElem h, List.any_append]; simp
theorem hash_others {F : List F2} {K : List (Int × Int)} (hk : KeyOk F K) {k : Int × Int} {i f : Nat} {u : List (List UInt8)} {x : List UInt8} (h : usesB f K = false) : bhashN k i (K.map (compN (u.set f x))) = bhashN k i (K.map (compN u)) := by
  have : K.map (compN (u.set f x)) = K.map (compN u) := by
    refine List.map_congr_left fun c hc => ?_
    have h1 : c.1 ≠ (f : Int) := by
      intro e
      unfold usesB at h
      rw [List.any_eq_false] at h
      exact h c hc (by simp [e])
    have h2 := (hk.fit c hc).1
    unfold compN
    rw [getD_set _ _ _ _ (by omega)]
  rw [this]
set_option maxHeartbeats 16000000 in
theorem bothers_walk (a : Option Addr) (n cap : Nat) (zs : List Int) (y : Int) (w : World) (hr : IsRow .i64 w a n cap zs) (hy : (Lit.int .u8 y).wf = true) :
    Calls Tryz.prog 4 #[.slice a n cap, .int .u8 y] w fun e w' => e = .returned (.bool true) ∧ Below w.heap.size w w' := by
  have hy1 : 0 ≤ y ∧ y ≤ 255 := by simpa [Lit.wf, IntKind.min, IntKind.max, IntKind.signed, IntKind.bits] using hy
  obtain ⟨at_, rfl⟩ : ∃ m : Nat, y = m := ⟨y.toNat, by omega⟩
  clear hy
  by_cases hn : n ≤ 400
  · have hd : decide (n ≤ 400) = true := by simpa using hn
    have HR := Lib.hid hr; clear hr
    go_enter Tryz.func4, Tryz.ntmps4
    go_wp2_with fail
    refine (awake_b _).mono ?_; rintro e w1 ⟨rfl, hb1⟩
    go_wp2_with fail
    refine (few_any a n cap _).mono ?_; rintro e w' ⟨rfl, rfl⟩
    go_wp2_with fail
    refine (new_any a n cap _).mono ?_; rintro e w' ⟨rfl, rfl⟩
    have Hdk := Lib.hid (deck_law (cap := cap) hn HR.out hb1)
    have HB1 := Lib.hid (hb1.alloc hb1.size (.cells #[.slice a n cap, .int .i64 0, .int .u64 11400714819323198485] 71))
    have zB1 := hb1.size
    clear hb1 HR hd
    go_wp2_with fail
    refine (schema_deal _ _ Hdk.out).mono ?_
    rintro e w2 ⟨vf, vt, vn, vs, s, rfl, hs, hsd, mv⟩
    obtain ⟨Wd, hWd⟩ : ∃ Wd : World, w1.alloc (.cells #[.slice a n cap, .int .i64 0, .int .u64 11400714819323198485] 71) = Wd := ⟨_, rfl⟩
    rw [hWd] at mv hs HB1
    obtain ⟨D, hD⟩ : ∃ D, w1.heap.size = D := ⟨_, rfl⟩
    have zWd : Wd.heap.size = D + 1 := by rw [← hWd, ← hD]; simp
    rw [hD] at mv zB1 ⊢
    obtain ⟨af, cf, rfl⟩ := hs.1.slice
    obtain ⟨at', ct, rfl⟩ := hs.2.1.slice
    obtain ⟨an, cn, rfl⟩ := hs.2.2.1.slice
    obtain ⟨as', cs, rfl⟩ := hs.2.2.2.slice
    have zD := mv.deck.lt
    have hlen5 := (check_fields hsd.check).1.2
    have hlen1 := hsd.some
    have hlen1000 : s.fields.length ≤ 1000 := by omega
    have HL1000 := Lib.hid hlen1000
    obtain ⟨N, hN⟩ : ∃ N, s.fields.length = N := ⟨_, rfl⟩
    rw [hN] at hlen5 hlen1 hs ⊢
    have M2 := Lib.hid mv; have HS := Lib.hid hs; have HSD := Lib.hid hsd; have HNN := Lib.hid hN
    clear mv hs hsd hWd hD Hdk hN hlen1000
    go_wp2_with fail
    refine wp_calls_world (fun W3 hW3 => ?_)
    have hb3 : Below w2.heap.size w2 W3 := by rw [hW3]; exact (Below.refl w2.heap.size w2).alloc (Nat.le_refl _) _
    have hs3 : W3.heap[w2.heap.size]? = some (.cells #[.slice af N cf, .slice at' s.rules.titles.length ct, .slice an s.rules.nicks.length cn, .slice as' s.rules.streets.length cs] 33 (0, 0)) := by rw [hW3]; exact blk_new rfl
    have M3 := Lib.hid (M2.out.below hb3); have HS3 := Lib.hid hs3; have HSA := Lib.hid (HS.out.below hb3)
    have z23 := M2.out.size
    have hSne : ∀ b, Wd.heap.size ≤ b → b ≠ D := fun b h => by omega
    have HNe := Lib.hid hSne
    clear hb3 hs3 HS hW3 M2 hSne
    have hkd := keys_deal D (fun b => Wd.heap.size ≤ b) (.slice af N cf) (.slice at' s.rules.titles.length ct) (.slice an s.rules.nicks.length cn) (.slice as' s.rules.streets.length cs) s 3 W3 M3.out.deck HSA.out HNe.out HSD.out (by decide)
    refine hkd.mono ?_
    rintro e w4 ⟨kv, Ks, rfl, hkv, hK3, hKok, mv⟩
    obtain ⟨ak, ck, rfl⟩ := hkv.slice
    have HKO := Lib.hid (show KeysOk s.fields Ks from ⟨by omega, hKok⟩)
    have M4 := Lib.hid (M3.out.trans mv)
    have HS4 := Lib.hid (mv.blk (k := w2.heap.size) (by omega) HS3.out)
    have HSA4 := Lib.hid (HSA.out.moved HNe.out mv)
    have HKV4 := Lib.hid (hkv.move (T := fun b => Wd.heap.size ≤ b) (w' := w4) (Nat.le_refl _) fun b hb hs => ⟨rfl, by have h1 := M3.out.size; have hs' : W3.heap.size ≤ b := hs; show Wd.heap.size ≤ b; omega⟩)
    clear hkv hKok mv M3 HS3 HSA hkd
    go_wp2_with fail
    refine (key_deal D _ M4.out.deck).mono ?_
    rintro e w5 ⟨k, rfl, mv⟩
    go_wp2_with fail
    refine wp_world (fun W5 hW5 => ?_)
    have hb5 : Below w5.heap.size w5 W5 := by rw [hW5]; exact (Below.refl w5.heap.size w5).alloc (Nat.le_refl _) _
    have hk5 : W5.heap[w5.heap.size]? = some (.cells #[.int .u64 k.1, .int .u64 k.2] 39 (0, 0)) := by rw [hW5]; exact blk_new rfl
    have z5 := mv.deck.lt
    have mv5 := mv.below hb5
    have KA := Lib.hid (show LbAt D Wd w2.heap.size w5.heap.size (fun b => Wd.heap.size ≤ b) (.slice af N cf) (.slice at' s.rules.titles.length ct) (.slice an s.rules.nicks.length cn) (.slice as' s.rules.streets.length cs) s (.slice ak Ks.length ck) Ks k W5 from
      ⟨M4.out.trans mv5, mv5.blk (by omega) HS4.out, hk5, HSA4.out.moved HNe.out mv5, HKV4.out.moved HNe.out mv5, HNe.out, by omega, by omega⟩)
    clear hb5 hk5 mv mv5 hW5 M4 HS4 HSA4 HKV4
    obtain ⟨p0, p1, p2, p3⟩ := cellsS KA.out.b
    have mD : Moved D W5 W5.drew := (Moved.start KA.out.m.deck).drew
    go_cut [9, 10] (fun s10 s11 wx => ∃ (ra rb : Nat) (sa sb : Value) (r1 r2 : RecL), s10 = .pointer (some ⟨ra, 0, none⟩) ∧ s11 = .pointer (some ⟨rb, 0, none⟩) ∧ wx.heap[ra]? = some (.cells #[.int .i64 r1.id, .int .i64 r1.ver, sa] 45 (0, 0)) ∧ wx.heap[rb]? = some (.cells #[.int .i64 r2.id, .int .i64 r2.ver, sb] 45 (0, 0)) ∧ Vec wx (fun b => D < b ∧ b ≠ ra ∧ b ≠ rb) 1 encS sa r1.vals ∧ Vec wx (fun b => D < b ∧ b ≠ ra ∧ b ≠ rb) 1 encS sb r2.vals ∧ Hid (checkN s r1 = 0 ∧ ∀ x ∈ r1.vals, x.length ≤ 64) ∧ Hid (checkN s r2 = 0 ∧ ∀ x ∈ r2.vals, x.length ≤ 64) ∧ Moved D W5 wx ∧ W5.heap.size ≤ ra ∧ W5.heap.size ≤ rb ∧ ra ≠ rb)
    case first =>
      have zW5 := KA.out.m.deck.lt
      refine wp_region_noPanic ?_
      refine wp_region_held_drew (S := (fun w' => w'.cell? ⟨w2.heap.size, 0, none⟩ = some (.slice af N cf) ∧ w'.cell? ⟨w2.heap.size, 1, none⟩ = some (.slice at' s.rules.titles.length ct) ∧ w'.cell? ⟨w2.heap.size, 2, none⟩ = some (.slice an s.rules.nicks.length cn) ∧ w'.cell? ⟨w2.heap.size, 3, none⟩ = some (.slice as' s.rules.streets.length cs))) (by kernel_rfl) (⟨p0, p1, p2, p3⟩) (fun hHeld => ?_)
      refine wpAnyH_take (i := 0) (v := ?_) rfl (by kernel_rfl) (by kernel_rfl) (by kernel_rfl) (fun _ _ _ h => h) (Or.inl ⟨by rfl, ?_⟩) (by assumption) ?_
      rotate_left 1
      · (intro wS hSw; (try dsimp only at hSw); go_simp; try with_reducible rfl)
      try simp only [List.getElem_toArray, List.getElem_cons_zero, List.getElem_cons_succ, Act.put, List.setIfInBounds_toArray, List.set_cons_zero, List.set_cons_succ]
      refine wpAnyH_take (i := 1) (v := ?_) rfl (by kernel_rfl) (by kernel_rfl) (by kernel_rfl) (fun _ _ _ h => h) (Or.inl ⟨by rfl, ?_⟩) (by assumption) ?_
      rotate_left 1
      · (intro wS hSw; (try dsimp only at hSw); go_simp; try with_reducible rfl)
      try simp only [List.getElem_toArray, List.getElem_cons_zero, List.getElem_cons_succ, Act.put, List.setIfInBounds_toArray, List.set_cons_zero, List.set_cons_succ]
      refine wpAnyH_take (i := 3) (v := ?_) rfl (by kernel_rfl) (by kernel_rfl) (by kernel_rfl) (fun _ _ _ h => h) (Or.inl ⟨by rfl, ?_⟩) (by assumption) ?_
      rotate_left 1
      · (intro wS hSw; (try dsimp only at hSw); go_simp; try with_reducible rfl)
      try simp only [List.getElem_toArray, List.getElem_cons_zero, List.getElem_cons_succ, Act.put, List.setIfInBounds_toArray, List.set_cons_zero, List.set_cons_succ]
      refine wpAnyH_take (i := 4) (v := ?_) rfl (by kernel_rfl) (by kernel_rfl) (by kernel_rfl) (fun _ _ _ h => h) (Or.inl ⟨by rfl, ?_⟩) (by assumption) ?_
      rotate_left 1
      · (intro wS hSw; (try dsimp only at hSw); go_simp; try with_reducible rfl)
      try simp only [List.getElem_toArray, List.getElem_cons_zero, List.getElem_cons_succ, Act.put, List.setIfInBounds_toArray, List.set_cons_zero, List.set_cons_succ]
      refine wpAnyH_ready (rs := [2, 6, 7]) (by kernel_rfl) (by simp) ?_
      refine AllReadyH.cons rfl (fun K hK => ?_) (AllReadyH.cons rfl (fun K hK => ?_) (AllReadyH.cons rfl (fun K hK => ?_) (AllReadyH.nil)))
      focus
        go_simp
        refine (record_deal D (fun b => Wd.heap.size ≤ b) _ _ _ _ s 3 _ (KA.out.moved mD).m.deck (KA.out.moved mD).s HNe.out HSD.out (by decide) (by decide)).mono ?_
        rintro e V1 ⟨_, r1, rfl, ⟨s1, rfl, hv1⟩, hi1, hc1, hsh1, mv⟩
        have m1 := mD.trans mv
        have hv1 := hv1.move (w' := V1) (S' := fun b => D < b) (Nat.le_refl _) fun b hb' hs => ⟨rfl, by have h1 := mD.size; have hs' := hs; omega⟩
        obtain ⟨a1, c1, es1⟩ := hv1.slice; subst es1
        have HC1 := Lib.hid (show checkN s r1 = 0 ∧ ∀ x ∈ r1.vals, x.length ≤ 64 from ⟨hc1, hsh1⟩); clear hc1 hsh1 mv hi1
        refine hK.out _ _ (⟨(cellsS (KA.out.moved (m1)).b).1, (cellsS (KA.out.moved (m1)).b).2.1, (cellsS (KA.out.moved (m1)).b).2.2.1, (cellsS (KA.out.moved (m1)).b).2.2.2⟩) (fun hHeld => ?_)
        clear hK K
        try simp only [List.getElem_toArray, List.getElem_cons_zero, List.getElem_cons_succ, Act.put, List.setIfInBounds_toArray, List.set_cons_zero, List.set_cons_succ]
        refine wpAnyH_ready (rs := [5, 6, 7]) (by kernel_rfl) (by simp) ?_
        refine AllReadyH.cons rfl (fun K hK => ?_) (AllReadyH.cons rfl (fun K hK => ?_) (AllReadyH.cons rfl (fun K hK => ?_) (AllReadyH.nil)))
        focus
          go_simp
          refine (record_deal D (fun b => Wd.heap.size ≤ b) _ _ _ _ s 3 _ (KA.out.moved m1).m.deck (KA.out.moved m1).s HNe.out HSD.out (by decide) (by decide)).mono ?_
          rintro e V2 ⟨_, r2, rfl, ⟨s2, rfl, hv2⟩, hi2, hc2, hsh2, mv⟩
          have m2 := m1.trans mv
          have hv1 := hv1.move mv.size (S' := fun b => D < b) fun b hb' hs => ⟨mv.grown.block b hb' (by have hs' := hs; simp; omega), hs⟩
          have hv2 := hv2.move (w' := V2) (S' := fun b => D < b) (Nat.le_refl _) fun b hb' hs => ⟨rfl, by have h1 := m1.size; have hs' := hs; omega⟩
          obtain ⟨a2, c2, es2⟩ := hv2.slice; subst es2
          have HC2 := Lib.hid (show checkN s r2 = 0 ∧ ∀ x ∈ r2.vals, x.length ≤ 64 from ⟨hc2, hsh2⟩); clear hc2 hsh2 mv hi2
          refine hK.out _ _ (⟨(cellsS (KA.out.moved (m2)).b).1, (cellsS (KA.out.moved (m2)).b).2.1, (cellsS (KA.out.moved (m2)).b).2.2.1, (cellsS (KA.out.moved (m2)).b).2.2.2⟩) (fun hHeld => ?_)
          clear hK K
          try simp only [List.getElem_toArray, List.getElem_cons_zero, List.getElem_cons_succ, Act.put, List.setIfInBounds_toArray, List.set_cons_zero, List.set_cons_succ]
          refine wpAnyH_ready (rs := [6, 7]) (by kernel_rfl) (by simp) ?_
          refine AllReadyH.cons rfl (fun K hK => ?_) (AllReadyH.cons rfl (fun K hK => ?_) (AllReadyH.nil))
          focus
            go_simp
            refine hK.out _ _ (⟨(cellsS (KA.out.moved (m2.alloc (.cells #[.int .i64 0, .int .i64 0, .slice none 0 0] 45))).b).1, (cellsS (KA.out.moved (m2.alloc (.cells #[.int .i64 0, .int .i64 0, .slice none 0 0] 45))).b).2.1, (cellsS (KA.out.moved (m2.alloc (.cells #[.int .i64 0, .int .i64 0, .slice none 0 0] 45))).b).2.2.1, (cellsS (KA.out.moved (m2.alloc (.cells #[.int .i64 0, .int .i64 0, .slice none 0 0] 45))).b).2.2.2⟩) (fun hHeld => ?_)
            clear hK K
            try simp only [List.getElem_toArray, List.getElem_cons_zero, List.getElem_cons_succ, Act.put, List.setIfInBounds_toArray, List.set_cons_zero, List.set_cons_succ]
            refine wph_name (fun V3 hV => ?_)
            have m3 : Moved D W5 V3 := by rw [hV]; exact m2.alloc (.cells #[.int .i64 0, .int .i64 0, .slice none 0 0] 45)
            have gA : V3.heap[V2.heap.size]? = some (.cells #[.int .i64 0, .int .i64 0, .slice none 0 0] 45 (0, 0)) := by rw [hV]; exact blk_new rfl
            have hrA : W5.heap.size ≤ V2.heap.size := m2.size
            have hv1 := hv1.move (w' := V3) (S' := fun b => D < b ∧ b ≠ V2.heap.size) (by rw [hV]; simp) fun b hb' hs => ⟨by rw [hV]; exact heap_alloc_old _ _ hb', by have hs' := hs; omega⟩
            have hv2 := hv2.move (w' := V3) (S' := fun b => D < b ∧ b ≠ V2.heap.size) (by rw [hV]; simp) fun b hb' hs => ⟨by rw [hV]; exact heap_alloc_old _ _ hb', by have hs' := hs; omega⟩
            clear hV hHeld
            have hHeld : V3.cell? ⟨w2.heap.size, 0, none⟩ = some (.slice af N cf) ∧ V3.cell? ⟨w2.heap.size, 1, none⟩ = some (.slice at' s.rules.titles.length ct) ∧ V3.cell? ⟨w2.heap.size, 2, none⟩ = some (.slice an s.rules.nicks.length cn) ∧ V3.cell? ⟨w2.heap.size, 3, none⟩ = some (.slice as' s.rules.streets.length cs) := ⟨(cellsS (KA.out.moved (m3)).b).1, (cellsS (KA.out.moved (m3)).b).2.1, (cellsS (KA.out.moved (m3)).b).2.2.1, (cellsS (KA.out.moved (m3)).b).2.2.2⟩
            refine wpAnyH_ready (rs := [7]) (by kernel_rfl) (by simp) ?_
            refine AllReadyH.cons rfl (fun K hK => ?_) (AllReadyH.nil)
            go_simp
            refine hK.out _ _ (⟨(cellsS (KA.out.moved (m3.alloc (.cells #[.int .i64 0, .int .i64 0, .slice none 0 0] 45))).b).1, (cellsS (KA.out.moved (m3.alloc (.cells #[.int .i64 0, .int .i64 0, .slice none 0 0] 45))).b).2.1, (cellsS (KA.out.moved (m3.alloc (.cells #[.int .i64 0, .int .i64 0, .slice none 0 0] 45))).b).2.2.1, (cellsS (KA.out.moved (m3.alloc (.cells #[.int .i64 0, .int .i64 0, .slice none 0 0] 45))).b).2.2.2⟩) (fun hHeld => ?_)
            clear hK K
            try simp only [List.getElem_toArray, List.getElem_cons_zero, List.getElem_cons_succ, Act.put, List.setIfInBounds_toArray, List.set_cons_zero, List.set_cons_succ]
            refine wph_name (fun V4 hV => ?_)
            have m4 : Moved D W5 V4 := by rw [hV]; exact m3.alloc (.cells #[.int .i64 0, .int .i64 0, .slice none 0 0] 45)
            have hltgA := lt_of_blk gA; have gA : V4.heap[V2.heap.size]? = some (.cells #[.int .i64 0, .int .i64 0, .slice none 0 0] 45 (0, 0)) := by rw [hV]; exact blk_old gA
            have gB : V4.heap[V3.heap.size]? = some (.cells #[.int .i64 0, .int .i64 0, .slice none 0 0] 45 (0, 0)) := by rw [hV]; exact blk_new rfl
            have hrB : W5.heap.size ≤ V3.heap.size := m3.size
            have hab : V2.heap.size ≠ V3.heap.size := by omega
            have hv1 := hv1.move (w' := V4) (S' := fun b => D < b ∧ b ≠ V2.heap.size ∧ b ≠ V3.heap.size) (by rw [hV]; simp) fun b hb' hs => ⟨by rw [hV]; exact heap_alloc_old _ _ hb', by have hs' := hs; omega⟩
            have hv2 := hv2.move (w' := V4) (S' := fun b => D < b ∧ b ≠ V2.heap.size ∧ b ≠ V3.heap.size) (by rw [hV]; simp) fun b hb' hs => ⟨by rw [hV]; exact heap_alloc_old _ _ hb', by have hs' := hs; omega⟩
            clear hV hHeld
            have hHeld : V4.cell? ⟨w2.heap.size, 0, none⟩ = some (.slice af N cf) ∧ V4.cell? ⟨w2.heap.size, 1, none⟩ = some (.slice at' s.rules.titles.length ct) ∧ V4.cell? ⟨w2.heap.size, 2, none⟩ = some (.slice an s.rules.nicks.length cn) ∧ V4.cell? ⟨w2.heap.size, 3, none⟩ = some (.slice as' s.rules.streets.length cs) := ⟨(cellsS (KA.out.moved (m4)).b).1, (cellsS (KA.out.moved (m4)).b).2.1, (cellsS (KA.out.moved (m4)).b).2.2.1, (cellsS (KA.out.moved (m4)).b).2.2.2⟩
          rotate_left 1
          focus
            go_simp
            refine hK.out _ _ (⟨(cellsS (KA.out.moved (m2.alloc (.cells #[.int .i64 0, .int .i64 0, .slice none 0 0] 45))).b).1, (cellsS (KA.out.moved (m2.alloc (.cells #[.int .i64 0, .int .i64 0, .slice none 0 0] 45))).b).2.1, (cellsS (KA.out.moved (m2.alloc (.cells #[.int .i64 0, .int .i64 0, .slice none 0 0] 45))).b).2.2.1, (cellsS (KA.out.moved (m2.alloc (.cells #[.int .i64 0, .int .i64 0, .slice none 0 0] 45))).b).2.2.2⟩) (fun hHeld => ?_)
            clear hK K
            try simp only [List.getElem_toArray, List.getElem_cons_zero, List.getElem_cons_succ, Act.put, List.setIfInBounds_toArray, List.set_cons_zero, List.set_cons_succ]
            refine wph_name (fun V3 hV => ?_)
            have m3 : Moved D W5 V3 := by rw [hV]; exact m2.alloc (.cells #[.int .i64 0, .int .i64 0, .slice none 0 0] 45)
            have gB : V3.heap[V2.heap.size]? = some (.cells #[.int .i64 0, .int .i64 0, .slice none 0 0] 45 (0, 0)) := by rw [hV]; exact blk_new rfl
            have hrB : W5.heap.size ≤ V2.heap.size := m2.size
            have hv1 := hv1.move (w' := V3) (S' := fun b => D < b ∧ b ≠ V2.heap.size) (by rw [hV]; simp) fun b hb' hs => ⟨by rw [hV]; exact heap_alloc_old _ _ hb', by have hs' := hs; omega⟩
            have hv2 := hv2.move (w' := V3) (S' := fun b => D < b ∧ b ≠ V2.heap.size) (by rw [hV]; simp) fun b hb' hs => ⟨by rw [hV]; exact heap_alloc_old _ _ hb', by have hs' := hs; omega⟩
            clear hV hHeld
            have hHeld : V3.cell? ⟨w2.heap.size, 0, none⟩ = some (.slice af N cf) ∧ V3.cell? ⟨w2.heap.size, 1, none⟩ = some (.slice at' s.rules.titles.length ct) ∧ V3.cell? ⟨w2.heap.size, 2, none⟩ = some (.slice an s.rules.nicks.length cn) ∧ V3.cell? ⟨w2.heap.size, 3, none⟩ = some (.slice as' s.rules.streets.length cs) := ⟨(cellsS (KA.out.moved (m3)).b).1, (cellsS (KA.out.moved (m3)).b).2.1, (cellsS (KA.out.moved (m3)).b).2.2.1, (cellsS (KA.out.moved (m3)).b).2.2.2⟩
            refine wpAnyH_ready (rs := [6]) (by kernel_rfl) (by simp) ?_
            refine AllReadyH.cons rfl (fun K hK => ?_) (AllReadyH.nil)
            go_simp
            refine hK.out _ _ (⟨(cellsS (KA.out.moved (m3.alloc (.cells #[.int .i64 0, .int .i64 0, .slice none 0 0] 45))).b).1, (cellsS (KA.out.moved (m3.alloc (.cells #[.int .i64 0, .int .i64 0, .slice none 0 0] 45))).b).2.1, (cellsS (KA.out.moved (m3.alloc (.cells #[.int .i64 0, .int .i64 0, .slice none 0 0] 45))).b).2.2.1, (cellsS (KA.out.moved (m3.alloc (.cells #[.int .i64 0, .int .i64 0, .slice none 0 0] 45))).b).2.2.2⟩) (fun hHeld => ?_)
            clear hK K
            try simp only [List.getElem_toArray, List.getElem_cons_zero, List.getElem_cons_succ, Act.put, List.setIfInBounds_toArray, List.set_cons_zero, List.set_cons_succ]
            refine wph_name (fun V4 hV => ?_)
            have m4 : Moved D W5 V4 := by rw [hV]; exact m3.alloc (.cells #[.int .i64 0, .int .i64 0, .slice none 0 0] 45)
            have hltgB := lt_of_blk gB; have gB : V4.heap[V2.heap.size]? = some (.cells #[.int .i64 0, .int .i64 0, .slice none 0 0] 45 (0, 0)) := by rw [hV]; exact blk_old gB
            have gA : V4.heap[V3.heap.size]? = some (.cells #[.int .i64 0, .int .i64 0, .slice none 0 0] 45 (0, 0)) := by rw [hV]; exact blk_new rfl
            have hrA : W5.heap.size ≤ V3.heap.size := m3.size
            have hab : V3.heap.size ≠ V2.heap.size := by omega
            have hv1 := hv1.move (w' := V4) (S' := fun b => D < b ∧ b ≠ V3.heap.size ∧ b ≠ V2.heap.size) (by rw [hV]; simp) fun b hb' hs => ⟨by rw [hV]; exact heap_alloc_old _ _ hb', by have hs' := hs; omega⟩
            have hv2 := hv2.move (w' := V4) (S' := fun b => D < b ∧ b ≠ V3.heap.size ∧ b ≠ V2.heap.size) (by rw [hV]; simp) fun b hb' hs => ⟨by rw [hV]; exact heap_alloc_old _ _ hb', by have hs' := hs; omega⟩
            clear hV hHeld
            have hHeld : V4.cell? ⟨w2.heap.size, 0, none⟩ = some (.slice af N cf) ∧ V4.cell? ⟨w2.heap.size, 1, none⟩ = some (.slice at' s.rules.titles.length ct) ∧ V4.cell? ⟨w2.heap.size, 2, none⟩ = some (.slice an s.rules.nicks.length cn) ∧ V4.cell? ⟨w2.heap.size, 3, none⟩ = some (.slice as' s.rules.streets.length cs) := ⟨(cellsS (KA.out.moved (m4)).b).1, (cellsS (KA.out.moved (m4)).b).2.1, (cellsS (KA.out.moved (m4)).b).2.2.1, (cellsS (KA.out.moved (m4)).b).2.2.2⟩
        rotate_left 2
        focus
          go_simp
          refine hK.out _ _ (⟨(cellsS (KA.out.moved (m1.alloc (.cells #[.int .i64 0, .int .i64 0, .slice none 0 0] 45))).b).1, (cellsS (KA.out.moved (m1.alloc (.cells #[.int .i64 0, .int .i64 0, .slice none 0 0] 45))).b).2.1, (cellsS (KA.out.moved (m1.alloc (.cells #[.int .i64 0, .int .i64 0, .slice none 0 0] 45))).b).2.2.1, (cellsS (KA.out.moved (m1.alloc (.cells #[.int .i64 0, .int .i64 0, .slice none 0 0] 45))).b).2.2.2⟩) (fun hHeld => ?_)
          clear hK K
          try simp only [List.getElem_toArray, List.getElem_cons_zero, List.getElem_cons_succ, Act.put, List.setIfInBounds_toArray, List.set_cons_zero, List.set_cons_succ]
          refine wph_name (fun V2 hV => ?_)
          have m2 : Moved D W5 V2 := by rw [hV]; exact m1.alloc (.cells #[.int .i64 0, .int .i64 0, .slice none 0 0] 45)
          have gA : V2.heap[V1.heap.size]? = some (.cells #[.int .i64 0, .int .i64 0, .slice none 0 0] 45 (0, 0)) := by rw [hV]; exact blk_new rfl
          have hrA : W5.heap.size ≤ V1.heap.size := m1.size
          have hv1 := hv1.move (w' := V2) (S' := fun b => D < b ∧ b ≠ V1.heap.size) (by rw [hV]; simp) fun b hb' hs => ⟨by rw [hV]; exact heap_alloc_old _ _ hb', by have hs' := hs; omega⟩
          clear hV hHeld
          have hHeld : V2.cell? ⟨w2.heap.size, 0, none⟩ = some (.slice af N cf) ∧ V2.cell? ⟨w2.heap.size, 1, none⟩ = some (.slice at' s.rules.titles.length ct) ∧ V2.cell? ⟨w2.heap.size, 2, none⟩ = some (.slice an s.rules.nicks.length cn) ∧ V2.cell? ⟨w2.heap.size, 3, none⟩ = some (.slice as' s.rules.streets.length cs) := ⟨(cellsS (KA.out.moved (m2)).b).1, (cellsS (KA.out.moved (m2)).b).2.1, (cellsS (KA.out.moved (m2)).b).2.2.1, (cellsS (KA.out.moved (m2)).b).2.2.2⟩
          refine wpAnyH_ready (rs := [5, 7]) (by kernel_rfl) (by simp) ?_
          refine AllReadyH.cons rfl (fun K hK => ?_) (AllReadyH.cons rfl (fun K hK => ?_) (AllReadyH.nil))
          focus
            go_simp
            refine (record_deal D (fun b => Wd.heap.size ≤ b) _ _ _ _ s 3 _ (KA.out.moved m2).m.deck (KA.out.moved m2).s HNe.out HSD.out (by decide) (by decide)).mono ?_
            rintro e V3 ⟨_, r2, rfl, ⟨s2, rfl, hv2⟩, hi2, hc2, hsh2, mv⟩
            have m3 := m2.trans mv
            have hltgA := lt_of_blk gA; have gA := mv.blk (by omega) gA
            have hv1 := hv1.move mv.size (S' := fun b => D < b ∧ b ≠ V1.heap.size) fun b hb' hs => ⟨mv.grown.block b hb' (by have hs' := hs; simp; omega), hs⟩
            have hv2 := hv2.move (w' := V3) (S' := fun b => D < b ∧ b ≠ V1.heap.size) (Nat.le_refl _) fun b hb' hs => ⟨rfl, by have h1 := m2.size; have hs' := hs; omega⟩
            obtain ⟨a2, c2, es2⟩ := hv2.slice; subst es2
            have HC2 := Lib.hid (show checkN s r2 = 0 ∧ ∀ x ∈ r2.vals, x.length ≤ 64 from ⟨hc2, hsh2⟩); clear hc2 hsh2 mv hi2
            refine hK.out _ _ (⟨(cellsS (KA.out.moved (m3)).b).1, (cellsS (KA.out.moved (m3)).b).2.1, (cellsS (KA.out.moved (m3)).b).2.2.1, (cellsS (KA.out.moved (m3)).b).2.2.2⟩) (fun hHeld => ?_)
            clear hK K
            try simp only [List.getElem_toArray, List.getElem_cons_zero, List.getElem_cons_succ, Act.put, List.setIfInBounds_toArray, List.set_cons_zero, List.set_cons_succ]
            refine wpAnyH_ready (rs := [7]) (by kernel_rfl) (by simp) ?_
            refine AllReadyH.cons rfl (fun K hK => ?_) (AllReadyH.nil)
            go_simp
            refine hK.out _ _ (⟨(cellsS (KA.out.moved (m3.alloc (.cells #[.int .i64 0, .int .i64 0, .slice none 0 0] 45))).b).1, (cellsS (KA.out.moved (m3.alloc (.cells #[.int .i64 0, .int .i64 0, .slice none 0 0] 45))).b).2.1, (cellsS (KA.out.moved (m3.alloc (.cells #[.int .i64 0, .int .i64 0, .slice none 0 0] 45))).b).2.2.1, (cellsS (KA.out.moved (m3.alloc (.cells #[.int .i64 0, .int .i64 0, .slice none 0 0] 45))).b).2.2.2⟩) (fun hHeld => ?_)
            clear hK K
            try simp only [List.getElem_toArray, List.getElem_cons_zero, List.getElem_cons_succ, Act.put, List.setIfInBounds_toArray, List.set_cons_zero, List.set_cons_succ]
            refine wph_name (fun V4 hV => ?_)
            have m4 : Moved D W5 V4 := by rw [hV]; exact m3.alloc (.cells #[.int .i64 0, .int .i64 0, .slice none 0 0] 45)
            have hltgA := lt_of_blk gA; have gA : V4.heap[V1.heap.size]? = some (.cells #[.int .i64 0, .int .i64 0, .slice none 0 0] 45 (0, 0)) := by rw [hV]; exact blk_old gA
            have gB : V4.heap[V3.heap.size]? = some (.cells #[.int .i64 0, .int .i64 0, .slice none 0 0] 45 (0, 0)) := by rw [hV]; exact blk_new rfl
            have hrB : W5.heap.size ≤ V3.heap.size := m3.size
            have hab : V1.heap.size ≠ V3.heap.size := by omega
            have hv1 := hv1.move (w' := V4) (S' := fun b => D < b ∧ b ≠ V1.heap.size ∧ b ≠ V3.heap.size) (by rw [hV]; simp) fun b hb' hs => ⟨by rw [hV]; exact heap_alloc_old _ _ hb', by have hs' := hs; omega⟩
            have hv2 := hv2.move (w' := V4) (S' := fun b => D < b ∧ b ≠ V1.heap.size ∧ b ≠ V3.heap.size) (by rw [hV]; simp) fun b hb' hs => ⟨by rw [hV]; exact heap_alloc_old _ _ hb', by have hs' := hs; omega⟩
            clear hV hHeld
            have hHeld : V4.cell? ⟨w2.heap.size, 0, none⟩ = some (.slice af N cf) ∧ V4.cell? ⟨w2.heap.size, 1, none⟩ = some (.slice at' s.rules.titles.length ct) ∧ V4.cell? ⟨w2.heap.size, 2, none⟩ = some (.slice an s.rules.nicks.length cn) ∧ V4.cell? ⟨w2.heap.size, 3, none⟩ = some (.slice as' s.rules.streets.length cs) := ⟨(cellsS (KA.out.moved (m4)).b).1, (cellsS (KA.out.moved (m4)).b).2.1, (cellsS (KA.out.moved (m4)).b).2.2.1, (cellsS (KA.out.moved (m4)).b).2.2.2⟩
          rotate_left 1
          focus
            go_simp
            refine hK.out _ _ (⟨(cellsS (KA.out.moved (m2.alloc (.cells #[.int .i64 0, .int .i64 0, .slice none 0 0] 45))).b).1, (cellsS (KA.out.moved (m2.alloc (.cells #[.int .i64 0, .int .i64 0, .slice none 0 0] 45))).b).2.1, (cellsS (KA.out.moved (m2.alloc (.cells #[.int .i64 0, .int .i64 0, .slice none 0 0] 45))).b).2.2.1, (cellsS (KA.out.moved (m2.alloc (.cells #[.int .i64 0, .int .i64 0, .slice none 0 0] 45))).b).2.2.2⟩) (fun hHeld => ?_)
            clear hK K
            try simp only [List.getElem_toArray, List.getElem_cons_zero, List.getElem_cons_succ, Act.put, List.setIfInBounds_toArray, List.set_cons_zero, List.set_cons_succ]
            refine wph_name (fun V3 hV => ?_)
            have m3 : Moved D W5 V3 := by rw [hV]; exact m2.alloc (.cells #[.int .i64 0, .int .i64 0, .slice none 0 0] 45)
            have hltgA := lt_of_blk gA; have gA : V3.heap[V1.heap.size]? = some (.cells #[.int .i64 0, .int .i64 0, .slice none 0 0] 45 (0, 0)) := by rw [hV]; exact blk_old gA
            have gB : V3.heap[V2.heap.size]? = some (.cells #[.int .i64 0, .int .i64 0, .slice none 0 0] 45 (0, 0)) := by rw [hV]; exact blk_new rfl
            have hrB : W5.heap.size ≤ V2.heap.size := m2.size
            have hab : V1.heap.size ≠ V2.heap.size := by omega
            have hv1 := hv1.move (w' := V3) (S' := fun b => D < b ∧ b ≠ V1.heap.size ∧ b ≠ V2.heap.size) (by rw [hV]; simp) fun b hb' hs => ⟨by rw [hV]; exact heap_alloc_old _ _ hb', by have hs' := hs; omega⟩
            clear hV hHeld
            have hHeld : V3.cell? ⟨w2.heap.size, 0, none⟩ = some (.slice af N cf) ∧ V3.cell? ⟨w2.heap.size, 1, none⟩ = some (.slice at' s.rules.titles.length ct) ∧ V3.cell? ⟨w2.heap.size, 2, none⟩ = some (.slice an s.rules.nicks.length cn) ∧ V3.cell? ⟨w2.heap.size, 3, none⟩ = some (.slice as' s.rules.streets.length cs) := ⟨(cellsS (KA.out.moved (m3)).b).1, (cellsS (KA.out.moved (m3)).b).2.1, (cellsS (KA.out.moved (m3)).b).2.2.1, (cellsS (KA.out.moved (m3)).b).2.2.2⟩
            refine wpAnyH_ready (rs := [5]) (by kernel_rfl) (by simp) ?_
            refine AllReadyH.cons rfl (fun K hK => ?_) (AllReadyH.nil)
            go_simp
            refine (record_deal D (fun b => Wd.heap.size ≤ b) _ _ _ _ s 3 _ (KA.out.moved m3).m.deck (KA.out.moved m3).s HNe.out HSD.out (by decide) (by decide)).mono ?_
            rintro e V4 ⟨_, r2, rfl, ⟨s2, rfl, hv2⟩, hi2, hc2, hsh2, mv⟩
            have m4 := m3.trans mv
            have hltgA := lt_of_blk gA; have gA := mv.blk (by omega) gA
            have hltgB := lt_of_blk gB; have gB := mv.blk (by omega) gB
            have hv1 := hv1.move mv.size (S' := fun b => D < b ∧ b ≠ V1.heap.size ∧ b ≠ V2.heap.size) fun b hb' hs => ⟨mv.grown.block b hb' (by have hs' := hs; simp; omega), hs⟩
            have hv2 := hv2.move (w' := V4) (S' := fun b => D < b ∧ b ≠ V1.heap.size ∧ b ≠ V2.heap.size) (Nat.le_refl _) fun b hb' hs => ⟨rfl, by have h1 := m3.size; have hs' := hs; omega⟩
            obtain ⟨a2, c2, es2⟩ := hv2.slice; subst es2
            have HC2 := Lib.hid (show checkN s r2 = 0 ∧ ∀ x ∈ r2.vals, x.length ≤ 64 from ⟨hc2, hsh2⟩); clear hc2 hsh2 mv hi2
            refine hK.out _ _ (⟨(cellsS (KA.out.moved (m4)).b).1, (cellsS (KA.out.moved (m4)).b).2.1, (cellsS (KA.out.moved (m4)).b).2.2.1, (cellsS (KA.out.moved (m4)).b).2.2.2⟩) (fun hHeld => ?_)
            clear hK K
            try simp only [List.getElem_toArray, List.getElem_cons_zero, List.getElem_cons_succ, Act.put, List.setIfInBounds_toArray, List.set_cons_zero, List.set_cons_succ]
        rotate_left 2
        focus
          go_simp
          refine hK.out _ _ (⟨(cellsS (KA.out.moved (m1.alloc (.cells #[.int .i64 0, .int .i64 0, .slice none 0 0] 45))).b).1, (cellsS (KA.out.moved (m1.alloc (.cells #[.int .i64 0, .int .i64 0, .slice none 0 0] 45))).b).2.1, (cellsS (KA.out.moved (m1.alloc (.cells #[.int .i64 0, .int .i64 0, .slice none 0 0] 45))).b).2.2.1, (cellsS (KA.out.moved (m1.alloc (.cells #[.int .i64 0, .int .i64 0, .slice none 0 0] 45))).b).2.2.2⟩) (fun hHeld => ?_)
          clear hK K
          try simp only [List.getElem_toArray, List.getElem_cons_zero, List.getElem_cons_succ, Act.put, List.setIfInBounds_toArray, List.set_cons_zero, List.set_cons_succ]
          refine wph_name (fun V2 hV => ?_)
          have m2 : Moved D W5 V2 := by rw [hV]; exact m1.alloc (.cells #[.int .i64 0, .int .i64 0, .slice none 0 0] 45)
          have gB : V2.heap[V1.heap.size]? = some (.cells #[.int .i64 0, .int .i64 0, .slice none 0 0] 45 (0, 0)) := by rw [hV]; exact blk_new rfl
          have hrB : W5.heap.size ≤ V1.heap.size := m1.size
          have hv1 := hv1.move (w' := V2) (S' := fun b => D < b ∧ b ≠ V1.heap.size) (by rw [hV]; simp) fun b hb' hs => ⟨by rw [hV]; exact heap_alloc_old _ _ hb', by have hs' := hs; omega⟩
          clear hV hHeld
          have hHeld : V2.cell? ⟨w2.heap.size, 0, none⟩ = some (.slice af N cf) ∧ V2.cell? ⟨w2.heap.size, 1, none⟩ = some (.slice at' s.rules.titles.length ct) ∧ V2.cell? ⟨w2.heap.size, 2, none⟩ = some (.slice an s.rules.nicks.length cn) ∧ V2.cell? ⟨w2.heap.size, 3, none⟩ = some (.slice as' s.rules.streets.length cs) := ⟨(cellsS (KA.out.moved (m2)).b).1, (cellsS (KA.out.moved (m2)).b).2.1, (cellsS (KA.out.moved (m2)).b).2.2.1, (cellsS (KA.out.moved (m2)).b).2.2.2⟩
          refine wpAnyH_ready (rs := [5, 6]) (by kernel_rfl) (by simp) ?_
          refine AllReadyH.cons rfl (fun K hK => ?_) (AllReadyH.cons rfl (fun K hK => ?_) (AllReadyH.nil))
          focus
            go_simp
            refine (record_deal D (fun b => Wd.heap.size ≤ b) _ _ _ _ s 3 _ (KA.out.moved m2).m.deck (KA.out.moved m2).s HNe.out HSD.out (by decide) (by decide)).mono ?_
            rintro e V3 ⟨_, r2, rfl, ⟨s2, rfl, hv2⟩, hi2, hc2, hsh2, mv⟩
            have m3 := m2.trans mv
            have hltgB := lt_of_blk gB; have gB := mv.blk (by omega) gB
            have hv1 := hv1.move mv.size (S' := fun b => D < b ∧ b ≠ V1.heap.size) fun b hb' hs => ⟨mv.grown.block b hb' (by have hs' := hs; simp; omega), hs⟩
            have hv2 := hv2.move (w' := V3) (S' := fun b => D < b ∧ b ≠ V1.heap.size) (Nat.le_refl _) fun b hb' hs => ⟨rfl, by have h1 := m2.size; have hs' := hs; omega⟩
            obtain ⟨a2, c2, es2⟩ := hv2.slice; subst es2
            have HC2 := Lib.hid (show checkN s r2 = 0 ∧ ∀ x ∈ r2.vals, x.length ≤ 64 from ⟨hc2, hsh2⟩); clear hc2 hsh2 mv hi2
            refine hK.out _ _ (⟨(cellsS (KA.out.moved (m3)).b).1, (cellsS (KA.out.moved (m3)).b).2.1, (cellsS (KA.out.moved (m3)).b).2.2.1, (cellsS (KA.out.moved (m3)).b).2.2.2⟩) (fun hHeld => ?_)
            clear hK K
            try simp only [List.getElem_toArray, List.getElem_cons_zero, List.getElem_cons_succ, Act.put, List.setIfInBounds_toArray, List.set_cons_zero, List.set_cons_succ]
            refine wpAnyH_ready (rs := [6]) (by kernel_rfl) (by simp) ?_
            refine AllReadyH.cons rfl (fun K hK => ?_) (AllReadyH.nil)
            go_simp
            refine hK.out _ _ (⟨(cellsS (KA.out.moved (m3.alloc (.cells #[.int .i64 0, .int .i64 0, .slice none 0 0] 45))).b).1, (cellsS (KA.out.moved (m3.alloc (.cells #[.int .i64 0, .int .i64 0, .slice none 0 0] 45))).b).2.1, (cellsS (KA.out.moved (m3.alloc (.cells #[.int .i64 0, .int .i64 0, .slice none 0 0] 45))).b).2.2.1, (cellsS (KA.out.moved (m3.alloc (.cells #[.int .i64 0, .int .i64 0, .slice none 0 0] 45))).b).2.2.2⟩) (fun hHeld => ?_)
            clear hK K
            try simp only [List.getElem_toArray, List.getElem_cons_zero, List.getElem_cons_succ, Act.put, List.setIfInBounds_toArray, List.set_cons_zero, List.set_cons_succ]
            refine wph_name (fun V4 hV => ?_)
            have m4 : Moved D W5 V4 := by rw [hV]; exact m3.alloc (.cells #[.int .i64 0, .int .i64 0, .slice none 0 0] 45)
            have hltgB := lt_of_blk gB; have gB : V4.heap[V1.heap.size]? = some (.cells #[.int .i64 0, .int .i64 0, .slice none 0 0] 45 (0, 0)) := by rw [hV]; exact blk_old gB
            have gA : V4.heap[V3.heap.size]? = some (.cells #[.int .i64 0, .int .i64 0, .slice none 0 0] 45 (0, 0)) := by rw [hV]; exact blk_new rfl
            have hrA : W5.heap.size ≤ V3.heap.size := m3.size
            have hab : V3.heap.size ≠ V1.heap.size := by omega
            have hv1 := hv1.move (w' := V4) (S' := fun b => D < b ∧ b ≠ V3.heap.size ∧ b ≠ V1.heap.size) (by rw [hV]; simp) fun b hb' hs => ⟨by rw [hV]; exact heap_alloc_old _ _ hb', by have hs' := hs; omega⟩
            have hv2 := hv2.move (w' := V4) (S' := fun b => D < b ∧ b ≠ V3.heap.size ∧ b ≠ V1.heap.size) (by rw [hV]; simp) fun b hb' hs => ⟨by rw [hV]; exact heap_alloc_old _ _ hb', by have hs' := hs; omega⟩
            clear hV hHeld
            have hHeld : V4.cell? ⟨w2.heap.size, 0, none⟩ = some (.slice af N cf) ∧ V4.cell? ⟨w2.heap.size, 1, none⟩ = some (.slice at' s.rules.titles.length ct) ∧ V4.cell? ⟨w2.heap.size, 2, none⟩ = some (.slice an s.rules.nicks.length cn) ∧ V4.cell? ⟨w2.heap.size, 3, none⟩ = some (.slice as' s.rules.streets.length cs) := ⟨(cellsS (KA.out.moved (m4)).b).1, (cellsS (KA.out.moved (m4)).b).2.1, (cellsS (KA.out.moved (m4)).b).2.2.1, (cellsS (KA.out.moved (m4)).b).2.2.2⟩
          rotate_left 1
          focus
            go_simp
            refine hK.out _ _ (⟨(cellsS (KA.out.moved (m2.alloc (.cells #[.int .i64 0, .int .i64 0, .slice none 0 0] 45))).b).1, (cellsS (KA.out.moved (m2.alloc (.cells #[.int .i64 0, .int .i64 0, .slice none 0 0] 45))).b).2.1, (cellsS (KA.out.moved (m2.alloc (.cells #[.int .i64 0, .int .i64 0, .slice none 0 0] 45))).b).2.2.1, (cellsS (KA.out.moved (m2.alloc (.cells #[.int .i64 0, .int .i64 0, .slice none 0 0] 45))).b).2.2.2⟩) (fun hHeld => ?_)
            clear hK K
            try simp only [List.getElem_toArray, List.getElem_cons_zero, List.getElem_cons_succ, Act.put, List.setIfInBounds_toArray, List.set_cons_zero, List.set_cons_succ]
            refine wph_name (fun V3 hV => ?_)
            have m3 : Moved D W5 V3 := by rw [hV]; exact m2.alloc (.cells #[.int .i64 0, .int .i64 0, .slice none 0 0] 45)
            have hltgB := lt_of_blk gB; have gB : V3.heap[V1.heap.size]? = some (.cells #[.int .i64 0, .int .i64 0, .slice none 0 0] 45 (0, 0)) := by rw [hV]; exact blk_old gB
            have gA : V3.heap[V2.heap.size]? = some (.cells #[.int .i64 0, .int .i64 0, .slice none 0 0] 45 (0, 0)) := by rw [hV]; exact blk_new rfl
            have hrA : W5.heap.size ≤ V2.heap.size := m2.size
            have hab : V2.heap.size ≠ V1.heap.size := by omega
            have hv1 := hv1.move (w' := V3) (S' := fun b => D < b ∧ b ≠ V2.heap.size ∧ b ≠ V1.heap.size) (by rw [hV]; simp) fun b hb' hs => ⟨by rw [hV]; exact heap_alloc_old _ _ hb', by have hs' := hs; omega⟩
            clear hV hHeld
            have hHeld : V3.cell? ⟨w2.heap.size, 0, none⟩ = some (.slice af N cf) ∧ V3.cell? ⟨w2.heap.size, 1, none⟩ = some (.slice at' s.rules.titles.length ct) ∧ V3.cell? ⟨w2.heap.size, 2, none⟩ = some (.slice an s.rules.nicks.length cn) ∧ V3.cell? ⟨w2.heap.size, 3, none⟩ = some (.slice as' s.rules.streets.length cs) := ⟨(cellsS (KA.out.moved (m3)).b).1, (cellsS (KA.out.moved (m3)).b).2.1, (cellsS (KA.out.moved (m3)).b).2.2.1, (cellsS (KA.out.moved (m3)).b).2.2.2⟩
            refine wpAnyH_ready (rs := [5]) (by kernel_rfl) (by simp) ?_
            refine AllReadyH.cons rfl (fun K hK => ?_) (AllReadyH.nil)
            go_simp
            refine (record_deal D (fun b => Wd.heap.size ≤ b) _ _ _ _ s 3 _ (KA.out.moved m3).m.deck (KA.out.moved m3).s HNe.out HSD.out (by decide) (by decide)).mono ?_
            rintro e V4 ⟨_, r2, rfl, ⟨s2, rfl, hv2⟩, hi2, hc2, hsh2, mv⟩
            have m4 := m3.trans mv
            have hltgB := lt_of_blk gB; have gB := mv.blk (by omega) gB
            have hltgA := lt_of_blk gA; have gA := mv.blk (by omega) gA
            have hv1 := hv1.move mv.size (S' := fun b => D < b ∧ b ≠ V2.heap.size ∧ b ≠ V1.heap.size) fun b hb' hs => ⟨mv.grown.block b hb' (by have hs' := hs; simp; omega), hs⟩
            have hv2 := hv2.move (w' := V4) (S' := fun b => D < b ∧ b ≠ V2.heap.size ∧ b ≠ V1.heap.size) (Nat.le_refl _) fun b hb' hs => ⟨rfl, by have h1 := m3.size; have hs' := hs; omega⟩
            obtain ⟨a2, c2, es2⟩ := hv2.slice; subst es2
            have HC2 := Lib.hid (show checkN s r2 = 0 ∧ ∀ x ∈ r2.vals, x.length ≤ 64 from ⟨hc2, hsh2⟩); clear hc2 hsh2 mv hi2
            refine hK.out _ _ (⟨(cellsS (KA.out.moved (m4)).b).1, (cellsS (KA.out.moved (m4)).b).2.1, (cellsS (KA.out.moved (m4)).b).2.2.1, (cellsS (KA.out.moved (m4)).b).2.2.2⟩) (fun hHeld => ?_)
            clear hK K
            try simp only [List.getElem_toArray, List.getElem_cons_zero, List.getElem_cons_succ, Act.put, List.setIfInBounds_toArray, List.set_cons_zero, List.set_cons_succ]
      rotate_left 6
      focus
        go_simp
        refine hK.out _ _ (⟨(cellsS (KA.out.moved (mD.alloc (.cells #[.int .i64 0, .int .i64 0, .slice none 0 0] 45))).b).1, (cellsS (KA.out.moved (mD.alloc (.cells #[.int .i64 0, .int .i64 0, .slice none 0 0] 45))).b).2.1, (cellsS (KA.out.moved (mD.alloc (.cells #[.int .i64 0, .int .i64 0, .slice none 0 0] 45))).b).2.2.1, (cellsS (KA.out.moved (mD.alloc (.cells #[.int .i64 0, .int .i64 0, .slice none 0 0] 45))).b).2.2.2⟩) (fun hHeld => ?_)
        clear hK K
        try simp only [List.getElem_toArray, List.getElem_cons_zero, List.getElem_cons_succ, Act.put, List.setIfInBounds_toArray, List.set_cons_zero, List.set_cons_succ]
        refine wph_name (fun V1 hV => ?_)
        have m1 : Moved D W5 V1 := by rw [hV]; exact mD.alloc (.cells #[.int .i64 0, .int .i64 0, .slice none 0 0] 45)
        have gA : V1.heap[W5.heap.size]? = some (.cells #[.int .i64 0, .int .i64 0, .slice none 0 0] 45 (0, 0)) := by rw [hV]; exact blk_new rfl
        have hrA : W5.heap.size ≤ W5.heap.size := mD.size
        clear hV hHeld
        have hHeld : V1.cell? ⟨w2.heap.size, 0, none⟩ = some (.slice af N cf) ∧ V1.cell? ⟨w2.heap.size, 1, none⟩ = some (.slice at' s.rules.titles.length ct) ∧ V1.cell? ⟨w2.heap.size, 2, none⟩ = some (.slice an s.rules.nicks.length cn) ∧ V1.cell? ⟨w2.heap.size, 3, none⟩ = some (.slice as' s.rules.streets.length cs) := ⟨(cellsS (KA.out.moved (m1)).b).1, (cellsS (KA.out.moved (m1)).b).2.1, (cellsS (KA.out.moved (m1)).b).2.2.1, (cellsS (KA.out.moved (m1)).b).2.2.2⟩
        refine wpAnyH_ready (rs := [2, 7]) (by kernel_rfl) (by simp) ?_
        refine AllReadyH.cons rfl (fun K hK => ?_) (AllReadyH.cons rfl (fun K hK => ?_) (AllReadyH.nil))
        focus
          go_simp
          refine (record_deal D (fun b => Wd.heap.size ≤ b) _ _ _ _ s 3 _ (KA.out.moved m1).m.deck (KA.out.moved m1).s HNe.out HSD.out (by decide) (by decide)).mono ?_
          rintro e V2 ⟨_, r1, rfl, ⟨s1, rfl, hv1⟩, hi1, hc1, hsh1, mv⟩
          have m2 := m1.trans mv
          have hltgA := lt_of_blk gA; have gA := mv.blk (by omega) gA
          have hv1 := hv1.move (w' := V2) (S' := fun b => D < b ∧ b ≠ W5.heap.size) (Nat.le_refl _) fun b hb' hs => ⟨rfl, by have h1 := m1.size; have hs' := hs; omega⟩
          obtain ⟨a1, c1, es1⟩ := hv1.slice; subst es1
          have HC1 := Lib.hid (show checkN s r1 = 0 ∧ ∀ x ∈ r1.vals, x.length ≤ 64 from ⟨hc1, hsh1⟩); clear hc1 hsh1 mv hi1
          refine hK.out _ _ (⟨(cellsS (KA.out.moved (m2)).b).1, (cellsS (KA.out.moved (m2)).b).2.1, (cellsS (KA.out.moved (m2)).b).2.2.1, (cellsS (KA.out.moved (m2)).b).2.2.2⟩) (fun hHeld => ?_)
          clear hK K
          try simp only [List.getElem_toArray, List.getElem_cons_zero, List.getElem_cons_succ, Act.put, List.setIfInBounds_toArray, List.set_cons_zero, List.set_cons_succ]
          refine wpAnyH_ready (rs := [5, 7]) (by kernel_rfl) (by simp) ?_
          refine AllReadyH.cons rfl (fun K hK => ?_) (AllReadyH.cons rfl (fun K hK => ?_) (AllReadyH.nil))
          focus
            go_simp
            refine (record_deal D (fun b => Wd.heap.size ≤ b) _ _ _ _ s 3 _ (KA.out.moved m2).m.deck (KA.out.moved m2).s HNe.out HSD.out (by decide) (by decide)).mono ?_
            rintro e V3 ⟨_, r2, rfl, ⟨s2, rfl, hv2⟩, hi2, hc2, hsh2, mv⟩
            have m3 := m2.trans mv
            have hltgA := lt_of_blk gA; have gA := mv.blk (by omega) gA
            have hv1 := hv1.move mv.size (S' := fun b => D < b ∧ b ≠ W5.heap.size) fun b hb' hs => ⟨mv.grown.block b hb' (by have hs' := hs; simp; omega), hs⟩
            have hv2 := hv2.move (w' := V3) (S' := fun b => D < b ∧ b ≠ W5.heap.size) (Nat.le_refl _) fun b hb' hs => ⟨rfl, by have h1 := m2.size; have hs' := hs; omega⟩
            obtain ⟨a2, c2, es2⟩ := hv2.slice; subst es2
            have HC2 := Lib.hid (show checkN s r2 = 0 ∧ ∀ x ∈ r2.vals, x.length ≤ 64 from ⟨hc2, hsh2⟩); clear hc2 hsh2 mv hi2
            refine hK.out _ _ (⟨(cellsS (KA.out.moved (m3)).b).1, (cellsS (KA.out.moved (m3)).b).2.1, (cellsS (KA.out.moved (m3)).b).2.2.1, (cellsS (KA.out.moved (m3)).b).2.2.2⟩) (fun hHeld => ?_)
            clear hK K
            try simp only [List.getElem_toArray, List.getElem_cons_zero, List.getElem_cons_succ, Act.put, List.setIfInBounds_toArray, List.set_cons_zero, List.set_cons_succ]
            refine wpAnyH_ready (rs := [7]) (by kernel_rfl) (by simp) ?_
            refine AllReadyH.cons rfl (fun K hK => ?_) (AllReadyH.nil)
            go_simp
            refine hK.out _ _ (⟨(cellsS (KA.out.moved (m3.alloc (.cells #[.int .i64 0, .int .i64 0, .slice none 0 0] 45))).b).1, (cellsS (KA.out.moved (m3.alloc (.cells #[.int .i64 0, .int .i64 0, .slice none 0 0] 45))).b).2.1, (cellsS (KA.out.moved (m3.alloc (.cells #[.int .i64 0, .int .i64 0, .slice none 0 0] 45))).b).2.2.1, (cellsS (KA.out.moved (m3.alloc (.cells #[.int .i64 0, .int .i64 0, .slice none 0 0] 45))).b).2.2.2⟩) (fun hHeld => ?_)
            clear hK K
            try simp only [List.getElem_toArray, List.getElem_cons_zero, List.getElem_cons_succ, Act.put, List.setIfInBounds_toArray, List.set_cons_zero, List.set_cons_succ]
            refine wph_name (fun V4 hV => ?_)
            have m4 : Moved D W5 V4 := by rw [hV]; exact m3.alloc (.cells #[.int .i64 0, .int .i64 0, .slice none 0 0] 45)
            have hltgA := lt_of_blk gA; have gA : V4.heap[W5.heap.size]? = some (.cells #[.int .i64 0, .int .i64 0, .slice none 0 0] 45 (0, 0)) := by rw [hV]; exact blk_old gA
            have gB : V4.heap[V3.heap.size]? = some (.cells #[.int .i64 0, .int .i64 0, .slice none 0 0] 45 (0, 0)) := by rw [hV]; exact blk_new rfl
            have hrB : W5.heap.size ≤ V3.heap.size := m3.size
            have hab : W5.heap.size ≠ V3.heap.size := by omega
            have hv1 := hv1.move (w' := V4) (S' := fun b => D < b ∧ b ≠ W5.heap.size ∧ b ≠ V3.heap.size) (by rw [hV]; simp) fun b hb' hs => ⟨by rw [hV]; exact heap_alloc_old _ _ hb', by have hs' := hs; omega⟩
            have hv2 := hv2.move (w' := V4) (S' := fun b => D < b ∧ b ≠ W5.heap.size ∧ b ≠ V3.heap.size) (by rw [hV]; simp) fun b hb' hs => ⟨by rw [hV]; exact heap_alloc_old _ _ hb', by have hs' := hs; omega⟩
            clear hV hHeld
            have hHeld : V4.cell? ⟨w2.heap.size, 0, none⟩ = some (.slice af N cf) ∧ V4.cell? ⟨w2.heap.size, 1, none⟩ = some (.slice at' s.rules.titles.length ct) ∧ V4.cell? ⟨w2.heap.size, 2, none⟩ = some (.slice an s.rules.nicks.length cn) ∧ V4.cell? ⟨w2.heap.size, 3, none⟩ = some (.slice as' s.rules.streets.length cs) := ⟨(cellsS (KA.out.moved (m4)).b).1, (cellsS (KA.out.moved (m4)).b).2.1, (cellsS (KA.out.moved (m4)).b).2.2.1, (cellsS (KA.out.moved (m4)).b).2.2.2⟩
          rotate_left 1
          focus
            go_simp
            refine hK.out _ _ (⟨(cellsS (KA.out.moved (m2.alloc (.cells #[.int .i64 0, .int .i64 0, .slice none 0 0] 45))).b).1, (cellsS (KA.out.moved (m2.alloc (.cells #[.int .i64 0, .int .i64 0, .slice none 0 0] 45))).b).2.1, (cellsS (KA.out.moved (m2.alloc (.cells #[.int .i64 0, .int .i64 0, .slice none 0 0] 45))).b).2.2.1, (cellsS (KA.out.moved (m2.alloc (.cells #[.int .i64 0, .int .i64 0, .slice none 0 0] 45))).b).2.2.2⟩) (fun hHeld => ?_)
            clear hK K
            try simp only [List.getElem_toArray, List.getElem_cons_zero, List.getElem_cons_succ, Act.put, List.setIfInBounds_toArray, List.set_cons_zero, List.set_cons_succ]
            refine wph_name (fun V3 hV => ?_)
            have m3 : Moved D W5 V3 := by rw [hV]; exact m2.alloc (.cells #[.int .i64 0, .int .i64 0, .slice none 0 0] 45)
            have hltgA := lt_of_blk gA; have gA : V3.heap[W5.heap.size]? = some (.cells #[.int .i64 0, .int .i64 0, .slice none 0 0] 45 (0, 0)) := by rw [hV]; exact blk_old gA
            have gB : V3.heap[V2.heap.size]? = some (.cells #[.int .i64 0, .int .i64 0, .slice none 0 0] 45 (0, 0)) := by rw [hV]; exact blk_new rfl
            have hrB : W5.heap.size ≤ V2.heap.size := m2.size
            have hab : W5.heap.size ≠ V2.heap.size := by omega
            have hv1 := hv1.move (w' := V3) (S' := fun b => D < b ∧ b ≠ W5.heap.size ∧ b ≠ V2.heap.size) (by rw [hV]; simp) fun b hb' hs => ⟨by rw [hV]; exact heap_alloc_old _ _ hb', by have hs' := hs; omega⟩
            clear hV hHeld
            have hHeld : V3.cell? ⟨w2.heap.size, 0, none⟩ = some (.slice af N cf) ∧ V3.cell? ⟨w2.heap.size, 1, none⟩ = some (.slice at' s.rules.titles.length ct) ∧ V3.cell? ⟨w2.heap.size, 2, none⟩ = some (.slice an s.rules.nicks.length cn) ∧ V3.cell? ⟨w2.heap.size, 3, none⟩ = some (.slice as' s.rules.streets.length cs) := ⟨(cellsS (KA.out.moved (m3)).b).1, (cellsS (KA.out.moved (m3)).b).2.1, (cellsS (KA.out.moved (m3)).b).2.2.1, (cellsS (KA.out.moved (m3)).b).2.2.2⟩
            refine wpAnyH_ready (rs := [5]) (by kernel_rfl) (by simp) ?_
            refine AllReadyH.cons rfl (fun K hK => ?_) (AllReadyH.nil)
            go_simp
            refine (record_deal D (fun b => Wd.heap.size ≤ b) _ _ _ _ s 3 _ (KA.out.moved m3).m.deck (KA.out.moved m3).s HNe.out HSD.out (by decide) (by decide)).mono ?_
            rintro e V4 ⟨_, r2, rfl, ⟨s2, rfl, hv2⟩, hi2, hc2, hsh2, mv⟩
            have m4 := m3.trans mv
            have hltgA := lt_of_blk gA; have gA := mv.blk (by omega) gA
            have hltgB := lt_of_blk gB; have gB := mv.blk (by omega) gB
            have hv1 := hv1.move mv.size (S' := fun b => D < b ∧ b ≠ W5.heap.size ∧ b ≠ V2.heap.size) fun b hb' hs => ⟨mv.grown.block b hb' (by have hs' := hs; simp; omega), hs⟩
            have hv2 := hv2.move (w' := V4) (S' := fun b => D < b ∧ b ≠ W5.heap.size ∧ b ≠ V2.heap.size) (Nat.le_refl _) fun b hb' hs => ⟨rfl, by have h1 := m3.size; have hs' := hs; omega⟩
            obtain ⟨a2, c2, es2⟩ := hv2.slice; subst es2
            have HC2 := Lib.hid (show checkN s r2 = 0 ∧ ∀ x ∈ r2.vals, x.length ≤ 64 from ⟨hc2, hsh2⟩); clear hc2 hsh2 mv hi2
            refine hK.out _ _ (⟨(cellsS (KA.out.moved (m4)).b).1, (cellsS (KA.out.moved (m4)).b).2.1, (cellsS (KA.out.moved (m4)).b).2.2.1, (cellsS (KA.out.moved (m4)).b).2.2.2⟩) (fun hHeld => ?_)
            clear hK K
            try simp only [List.getElem_toArray, List.getElem_cons_zero, List.getElem_cons_succ, Act.put, List.setIfInBounds_toArray, List.set_cons_zero, List.set_cons_succ]
        rotate_left 2
        focus
          go_simp
          refine hK.out _ _ (⟨(cellsS (KA.out.moved (m1.alloc (.cells #[.int .i64 0, .int .i64 0, .slice none 0 0] 45))).b).1, (cellsS (KA.out.moved (m1.alloc (.cells #[.int .i64 0, .int .i64 0, .slice none 0 0] 45))).b).2.1, (cellsS (KA.out.moved (m1.alloc (.cells #[.int .i64 0, .int .i64 0, .slice none 0 0] 45))).b).2.2.1, (cellsS (KA.out.moved (m1.alloc (.cells #[.int .i64 0, .int .i64 0, .slice none 0 0] 45))).b).2.2.2⟩) (fun hHeld => ?_)
          clear hK K
          try simp only [List.getElem_toArray, List.getElem_cons_zero, List.getElem_cons_succ, Act.put, List.setIfInBounds_toArray, List.set_cons_zero, List.set_cons_succ]
          refine wph_name (fun V2 hV => ?_)
          have m2 : Moved D W5 V2 := by rw [hV]; exact m1.alloc (.cells #[.int .i64 0, .int .i64 0, .slice none 0 0] 45)
          have hltgA := lt_of_blk gA; have gA : V2.heap[W5.heap.size]? = some (.cells #[.int .i64 0, .int .i64 0, .slice none 0 0] 45 (0, 0)) := by rw [hV]; exact blk_old gA
          have gB : V2.heap[V1.heap.size]? = some (.cells #[.int .i64 0, .int .i64 0, .slice none 0 0] 45 (0, 0)) := by rw [hV]; exact blk_new rfl
          have hrB : W5.heap.size ≤ V1.heap.size := m1.size
          have hab : W5.heap.size ≠ V1.heap.size := by omega
          clear hV hHeld
          have hHeld : V2.cell? ⟨w2.heap.size, 0, none⟩ = some (.slice af N cf) ∧ V2.cell? ⟨w2.heap.size, 1, none⟩ = some (.slice at' s.rules.titles.length ct) ∧ V2.cell? ⟨w2.heap.size, 2, none⟩ = some (.slice an s.rules.nicks.length cn) ∧ V2.cell? ⟨w2.heap.size, 3, none⟩ = some (.slice as' s.rules.streets.length cs) := ⟨(cellsS (KA.out.moved (m2)).b).1, (cellsS (KA.out.moved (m2)).b).2.1, (cellsS (KA.out.moved (m2)).b).2.2.1, (cellsS (KA.out.moved (m2)).b).2.2.2⟩
          refine wpAnyH_ready (rs := [2]) (by kernel_rfl) (by simp) ?_
          refine AllReadyH.cons rfl (fun K hK => ?_) (AllReadyH.nil)
          go_simp
          refine (record_deal D (fun b => Wd.heap.size ≤ b) _ _ _ _ s 3 _ (KA.out.moved m2).m.deck (KA.out.moved m2).s HNe.out HSD.out (by decide) (by decide)).mono ?_
          rintro e V3 ⟨_, r1, rfl, ⟨s1, rfl, hv1⟩, hi1, hc1, hsh1, mv⟩
          have m3 := m2.trans mv
          have hltgA := lt_of_blk gA; have gA := mv.blk (by omega) gA
          have hltgB := lt_of_blk gB; have gB := mv.blk (by omega) gB
          have hv1 := hv1.move (w' := V3) (S' := fun b => D < b ∧ b ≠ W5.heap.size ∧ b ≠ V1.heap.size) (Nat.le_refl _) fun b hb' hs => ⟨rfl, by have h1 := m2.size; have hs' := hs; omega⟩
          obtain ⟨a1, c1, es1⟩ := hv1.slice; subst es1
          have HC1 := Lib.hid (show checkN s r1 = 0 ∧ ∀ x ∈ r1.vals, x.length ≤ 64 from ⟨hc1, hsh1⟩); clear hc1 hsh1 mv hi1
          refine hK.out _ _ (⟨(cellsS (KA.out.moved (m3)).b).1, (cellsS (KA.out.moved (m3)).b).2.1, (cellsS (KA.out.moved (m3)).b).2.2.1, (cellsS (KA.out.moved (m3)).b).2.2.2⟩) (fun hHeld => ?_)
          clear hK K
          try simp only [List.getElem_toArray, List.getElem_cons_zero, List.getElem_cons_succ, Act.put, List.setIfInBounds_toArray, List.set_cons_zero, List.set_cons_succ]
          refine wpAnyH_ready (rs := [5]) (by kernel_rfl) (by simp) ?_
          refine AllReadyH.cons rfl (fun K hK => ?_) (AllReadyH.nil)
          go_simp
          refine (record_deal D (fun b => Wd.heap.size ≤ b) _ _ _ _ s 3 _ (KA.out.moved m3).m.deck (KA.out.moved m3).s HNe.out HSD.out (by decide) (by decide)).mono ?_
          rintro e V4 ⟨_, r2, rfl, ⟨s2, rfl, hv2⟩, hi2, hc2, hsh2, mv⟩
          have m4 := m3.trans mv
          have hltgA := lt_of_blk gA; have gA := mv.blk (by omega) gA
          have hltgB := lt_of_blk gB; have gB := mv.blk (by omega) gB
          have hv1 := hv1.move mv.size (S' := fun b => D < b ∧ b ≠ W5.heap.size ∧ b ≠ V1.heap.size) fun b hb' hs => ⟨mv.grown.block b hb' (by have hs' := hs; simp; omega), hs⟩
          have hv2 := hv2.move (w' := V4) (S' := fun b => D < b ∧ b ≠ W5.heap.size ∧ b ≠ V1.heap.size) (Nat.le_refl _) fun b hb' hs => ⟨rfl, by have h1 := m3.size; have hs' := hs; omega⟩
          obtain ⟨a2, c2, es2⟩ := hv2.slice; subst es2
          have HC2 := Lib.hid (show checkN s r2 = 0 ∧ ∀ x ∈ r2.vals, x.length ≤ 64 from ⟨hc2, hsh2⟩); clear hc2 hsh2 mv hi2
          refine hK.out _ _ (⟨(cellsS (KA.out.moved (m4)).b).1, (cellsS (KA.out.moved (m4)).b).2.1, (cellsS (KA.out.moved (m4)).b).2.2.1, (cellsS (KA.out.moved (m4)).b).2.2.2⟩) (fun hHeld => ?_)
          clear hK K
          try simp only [List.getElem_toArray, List.getElem_cons_zero, List.getElem_cons_succ, Act.put, List.setIfInBounds_toArray, List.set_cons_zero, List.set_cons_succ]
      rotate_left 3
      focus
        go_simp
        refine hK.out _ _ (⟨(cellsS (KA.out.moved (mD.alloc (.cells #[.int .i64 0, .int .i64 0, .slice none 0 0] 45))).b).1, (cellsS (KA.out.moved (mD.alloc (.cells #[.int .i64 0, .int .i64 0, .slice none 0 0] 45))).b).2.1, (cellsS (KA.out.moved (mD.alloc (.cells #[.int .i64 0, .int .i64 0, .slice none 0 0] 45))).b).2.2.1, (cellsS (KA.out.moved (mD.alloc (.cells #[.int .i64 0, .int .i64 0, .slice none 0 0] 45))).b).2.2.2⟩) (fun hHeld => ?_)
        clear hK K
        try simp only [List.getElem_toArray, List.getElem_cons_zero, List.getElem_cons_succ, Act.put, List.setIfInBounds_toArray, List.set_cons_zero, List.set_cons_succ]
        refine wph_name (fun V1 hV => ?_)
        have m1 : Moved D W5 V1 := by rw [hV]; exact mD.alloc (.cells #[.int .i64 0, .int .i64 0, .slice none 0 0] 45)
        have gB : V1.heap[W5.heap.size]? = some (.cells #[.int .i64 0, .int .i64 0, .slice none 0 0] 45 (0, 0)) := by rw [hV]; exact blk_new rfl
        have hrB : W5.heap.size ≤ W5.heap.size := mD.size
        clear hV hHeld
        have hHeld : V1.cell? ⟨w2.heap.size, 0, none⟩ = some (.slice af N cf) ∧ V1.cell? ⟨w2.heap.size, 1, none⟩ = some (.slice at' s.rules.titles.length ct) ∧ V1.cell? ⟨w2.heap.size, 2, none⟩ = some (.slice an s.rules.nicks.length cn) ∧ V1.cell? ⟨w2.heap.size, 3, none⟩ = some (.slice as' s.rules.streets.length cs) := ⟨(cellsS (KA.out.moved (m1)).b).1, (cellsS (KA.out.moved (m1)).b).2.1, (cellsS (KA.out.moved (m1)).b).2.2.1, (cellsS (KA.out.moved (m1)).b).2.2.2⟩
        refine wpAnyH_ready (rs := [2, 6]) (by kernel_rfl) (by simp) ?_
        refine AllReadyH.cons rfl (fun K hK => ?_) (AllReadyH.cons rfl (fun K hK => ?_) (AllReadyH.nil))
        focus
          go_simp
          refine (record_deal D (fun b => Wd.heap.size ≤ b) _ _ _ _ s 3 _ (KA.out.moved m1).m.deck (KA.out.moved m1).s HNe.out HSD.out (by decide) (by decide)).mono ?_
          rintro e V2 ⟨_, r1, rfl, ⟨s1, rfl, hv1⟩, hi1, hc1, hsh1, mv⟩
          have m2 := m1.trans mv
          have hltgB := lt_of_blk gB; have gB := mv.blk (by omega) gB
          have hv1 := hv1.move (w' := V2) (S' := fun b => D < b ∧ b ≠ W5.heap.size) (Nat.le_refl _) fun b hb' hs => ⟨rfl, by have h1 := m1.size; have hs' := hs; omega⟩
          obtain ⟨a1, c1, es1⟩ := hv1.slice; subst es1
          have HC1 := Lib.hid (show checkN s r1 = 0 ∧ ∀ x ∈ r1.vals, x.length ≤ 64 from ⟨hc1, hsh1⟩); clear hc1 hsh1 mv hi1
          refine hK.out _ _ (⟨(cellsS (KA.out.moved (m2)).b).1, (cellsS (KA.out.moved (m2)).b).2.1, (cellsS (KA.out.moved (m2)).b).2.2.1, (cellsS (KA.out.moved (m2)).b).2.2.2⟩) (fun hHeld => ?_)
          clear hK K
          try simp only [List.getElem_toArray, List.getElem_cons_zero, List.getElem_cons_succ, Act.put, List.setIfInBounds_toArray, List.set_cons_zero, List.set_cons_succ]
          refine wpAnyH_ready (rs := [5, 6]) (by kernel_rfl) (by simp) ?_
          refine AllReadyH.cons rfl (fun K hK => ?_) (AllReadyH.cons rfl (fun K hK => ?_) (AllReadyH.nil))
          focus
            go_simp
            refine (record_deal D (fun b => Wd.heap.size ≤ b) _ _ _ _ s 3 _ (KA.out.moved m2).m.deck (KA.out.moved m2).s HNe.out HSD.out (by decide) (by decide)).mono ?_
            rintro e V3 ⟨_, r2, rfl, ⟨s2, rfl, hv2⟩, hi2, hc2, hsh2, mv⟩
            have m3 := m2.trans mv
            have hltgB := lt_of_blk gB; have gB := mv.blk (by omega) gB
            have hv1 := hv1.move mv.size (S' := fun b => D < b ∧ b ≠ W5.heap.size) fun b hb' hs => ⟨mv.grown.block b hb' (by have hs' := hs; simp; omega), hs⟩
            have hv2 := hv2.move (w' := V3) (S' := fun b => D < b ∧ b ≠ W5.heap.size) (Nat.le_refl _) fun b hb' hs => ⟨rfl, by have h1 := m2.size; have hs' := hs; omega⟩
            obtain ⟨a2, c2, es2⟩ := hv2.slice; subst es2
            have HC2 := Lib.hid (show checkN s r2 = 0 ∧ ∀ x ∈ r2.vals, x.length ≤ 64 from ⟨hc2, hsh2⟩); clear hc2 hsh2 mv hi2
            refine hK.out _ _ (⟨(cellsS (KA.out.moved (m3)).b).1, (cellsS (KA.out.moved (m3)).b).2.1, (cellsS (KA.out.moved (m3)).b).2.2.1, (cellsS (KA.out.moved (m3)).b).2.2.2⟩) (fun hHeld => ?_)
            clear hK K
            try simp only [List.getElem_toArray, List.getElem_cons_zero, List.getElem_cons_succ, Act.put, List.setIfInBounds_toArray, List.set_cons_zero, List.set_cons_succ]
            refine wpAnyH_ready (rs := [6]) (by kernel_rfl) (by simp) ?_
            refine AllReadyH.cons rfl (fun K hK => ?_) (AllReadyH.nil)
            go_simp
            refine hK.out _ _ (⟨(cellsS (KA.out.moved (m3.alloc (.cells #[.int .i64 0, .int .i64 0, .slice none 0 0] 45))).b).1, (cellsS (KA.out.moved (m3.alloc (.cells #[.int .i64 0, .int .i64 0, .slice none 0 0] 45))).b).2.1, (cellsS (KA.out.moved (m3.alloc (.cells #[.int .i64 0, .int .i64 0, .slice none 0 0] 45))).b).2.2.1, (cellsS (KA.out.moved (m3.alloc (.cells #[.int .i64 0, .int .i64 0, .slice none 0 0] 45))).b).2.2.2⟩) (fun hHeld => ?_)
            clear hK K
            try simp only [List.getElem_toArray, List.getElem_cons_zero, List.getElem_cons_succ, Act.put, List.setIfInBounds_toArray, List.set_cons_zero, List.set_cons_succ]
            refine wph_name (fun V4 hV => ?_)
            have m4 : Moved D W5 V4 := by rw [hV]; exact m3.alloc (.cells #[.int .i64 0, .int .i64 0, .slice none 0 0] 45)
            have hltgB := lt_of_blk gB; have gB : V4.heap[W5.heap.size]? = some (.cells #[.int .i64 0, .int .i64 0, .slice none 0 0] 45 (0, 0)) := by rw [hV]; exact blk_old gB
            have gA : V4.heap[V3.heap.size]? = some (.cells #[.int .i64 0, .int .i64 0, .slice none 0 0] 45 (0, 0)) := by rw [hV]; exact blk_new rfl
            have hrA : W5.heap.size ≤ V3.heap.size := m3.size
            have hab : V3.heap.size ≠ W5.heap.size := by omega
            have hv1 := hv1.move (w' := V4) (S' := fun b => D < b ∧ b ≠ V3.heap.size ∧ b ≠ W5.heap.size) (by rw [hV]; simp) fun b hb' hs => ⟨by rw [hV]; exact heap_alloc_old _ _ hb', by have hs' := hs; omega⟩
            have hv2 := hv2.move (w' := V4) (S' := fun b => D < b ∧ b ≠ V3.heap.size ∧ b ≠ W5.heap.size) (by rw [hV]; simp) fun b hb' hs => ⟨by rw [hV]; exact heap_alloc_old _ _ hb', by have hs' := hs; omega⟩
            clear hV hHeld
            have hHeld : V4.cell? ⟨w2.heap.size, 0, none⟩ = some (.slice af N cf) ∧ V4.cell? ⟨w2.heap.size, 1, none⟩ = some (.slice at' s.rules.titles.length ct) ∧ V4.cell? ⟨w2.heap.size, 2, none⟩ = some (.slice an s.rules.nicks.length cn) ∧ V4.cell? ⟨w2.heap.size, 3, none⟩ = some (.slice as' s.rules.streets.length cs) := ⟨(cellsS (KA.out.moved (m4)).b).1, (cellsS (KA.out.moved (m4)).b).2.1, (cellsS (KA.out.moved (m4)).b).2.2.1, (cellsS (KA.out.moved (m4)).b).2.2.2⟩
          rotate_left 1
          focus
            go_simp
            refine hK.out _ _ (⟨(cellsS (KA.out.moved (m2.alloc (.cells #[.int .i64 0, .int .i64 0, .slice none 0 0] 45))).b).1, (cellsS (KA.out.moved (m2.alloc (.cells #[.int .i64 0, .int .i64 0, .slice none 0 0] 45))).b).2.1, (cellsS (KA.out.moved (m2.alloc (.cells #[.int .i64 0, .int .i64 0, .slice none 0 0] 45))).b).2.2.1, (cellsS (KA.out.moved (m2.alloc (.cells #[.int .i64 0, .int .i64 0, .slice none 0 0] 45))).b).2.2.2⟩) (fun hHeld => ?_)
            clear hK K
            try simp only [List.getElem_toArray, List.getElem_cons_zero, List.getElem_cons_succ, Act.put, List.setIfInBounds_toArray, List.set_cons_zero, List.set_cons_succ]
            refine wph_name (fun V3 hV => ?_)
            have m3 : Moved D W5 V3 := by rw [hV]; exact m2.alloc (.cells #[.int .i64 0, .int .i64 0, .slice none 0 0] 45)
            have hltgB := lt_of_blk gB; have gB : V3.heap[W5.heap.size]? = some (.cells #[.int .i64 0, .int .i64 0, .slice none 0 0] 45 (0, 0)) := by rw [hV]; exact blk_old gB
            have gA : V3.heap[V2.heap.size]? = some (.cells #[.int .i64 0, .int .i64 0, .slice none 0 0] 45 (0, 0)) := by rw [hV]; exact blk_new rfl
            have hrA : W5.heap.size ≤ V2.heap.size := m2.size
            have hab : V2.heap.size ≠ W5.heap.size := by omega
            have hv1 := hv1.move (w' := V3) (S' := fun b => D < b ∧ b ≠ V2.heap.size ∧ b ≠ W5.heap.size) (by rw [hV]; simp) fun b hb' hs => ⟨by rw [hV]; exact heap_alloc_old _ _ hb', by have hs' := hs; omega⟩
            clear hV hHeld
            have hHeld : V3.cell? ⟨w2.heap.size, 0, none⟩ = some (.slice af N cf) ∧ V3.cell? ⟨w2.heap.size, 1, none⟩ = some (.slice at' s.rules.titles.length ct) ∧ V3.cell? ⟨w2.heap.size, 2, none⟩ = some (.slice an s.rules.nicks.length cn) ∧ V3.cell? ⟨w2.heap.size, 3, none⟩ = some (.slice as' s.rules.streets.length cs) := ⟨(cellsS (KA.out.moved (m3)).b).1, (cellsS (KA.out.moved (m3)).b).2.1, (cellsS (KA.out.moved (m3)).b).2.2.1, (cellsS (KA.out.moved (m3)).b).2.2.2⟩
            refine wpAnyH_ready (rs := [5]) (by kernel_rfl) (by simp) ?_
            refine AllReadyH.cons rfl (fun K hK => ?_) (AllReadyH.nil)
            go_simp
            refine (record_deal D (fun b => Wd.heap.size ≤ b) _ _ _ _ s 3 _ (KA.out.moved m3).m.deck (KA.out.moved m3).s HNe.out HSD.out (by decide) (by decide)).mono ?_
            rintro e V4 ⟨_, r2, rfl, ⟨s2, rfl, hv2⟩, hi2, hc2, hsh2, mv⟩
            have m4 := m3.trans mv
            have hltgB := lt_of_blk gB; have gB := mv.blk (by omega) gB
            have hltgA := lt_of_blk gA; have gA := mv.blk (by omega) gA
            have hv1 := hv1.move mv.size (S' := fun b => D < b ∧ b ≠ V2.heap.size ∧ b ≠ W5.heap.size) fun b hb' hs => ⟨mv.grown.block b hb' (by have hs' := hs; simp; omega), hs⟩
            have hv2 := hv2.move (w' := V4) (S' := fun b => D < b ∧ b ≠ V2.heap.size ∧ b ≠ W5.heap.size) (Nat.le_refl _) fun b hb' hs => ⟨rfl, by have h1 := m3.size; have hs' := hs; omega⟩
            obtain ⟨a2, c2, es2⟩ := hv2.slice; subst es2
            have HC2 := Lib.hid (show checkN s r2 = 0 ∧ ∀ x ∈ r2.vals, x.length ≤ 64 from ⟨hc2, hsh2⟩); clear hc2 hsh2 mv hi2
            refine hK.out _ _ (⟨(cellsS (KA.out.moved (m4)).b).1, (cellsS (KA.out.moved (m4)).b).2.1, (cellsS (KA.out.moved (m4)).b).2.2.1, (cellsS (KA.out.moved (m4)).b).2.2.2⟩) (fun hHeld => ?_)
            clear hK K
            try simp only [List.getElem_toArray, List.getElem_cons_zero, List.getElem_cons_succ, Act.put, List.setIfInBounds_toArray, List.set_cons_zero, List.set_cons_succ]
        rotate_left 2
        focus
          go_simp
          refine hK.out _ _ (⟨(cellsS (KA.out.moved (m1.alloc (.cells #[.int .i64 0, .int .i64 0, .slice none 0 0] 45))).b).1, (cellsS (KA.out.moved (m1.alloc (.cells #[.int .i64 0, .int .i64 0, .slice none 0 0] 45))).b).2.1, (cellsS (KA.out.moved (m1.alloc (.cells #[.int .i64 0, .int .i64 0, .slice none 0 0] 45))).b).2.2.1, (cellsS (KA.out.moved (m1.alloc (.cells #[.int .i64 0, .int .i64 0, .slice none 0 0] 45))).b).2.2.2⟩) (fun hHeld => ?_)
          clear hK K
          try simp only [List.getElem_toArray, List.getElem_cons_zero, List.getElem_cons_succ, Act.put, List.setIfInBounds_toArray, List.set_cons_zero, List.set_cons_succ]
          refine wph_name (fun V2 hV => ?_)
          have m2 : Moved D W5 V2 := by rw [hV]; exact m1.alloc (.cells #[.int .i64 0, .int .i64 0, .slice none 0 0] 45)
          have hltgB := lt_of_blk gB; have gB : V2.heap[W5.heap.size]? = some (.cells #[.int .i64 0, .int .i64 0, .slice none 0 0] 45 (0, 0)) := by rw [hV]; exact blk_old gB
          have gA : V2.heap[V1.heap.size]? = some (.cells #[.int .i64 0, .int .i64 0, .slice none 0 0] 45 (0, 0)) := by rw [hV]; exact blk_new rfl
          have hrA : W5.heap.size ≤ V1.heap.size := m1.size
          have hab : V1.heap.size ≠ W5.heap.size := by omega
          clear hV hHeld
          have hHeld : V2.cell? ⟨w2.heap.size, 0, none⟩ = some (.slice af N cf) ∧ V2.cell? ⟨w2.heap.size, 1, none⟩ = some (.slice at' s.rules.titles.length ct) ∧ V2.cell? ⟨w2.heap.size, 2, none⟩ = some (.slice an s.rules.nicks.length cn) ∧ V2.cell? ⟨w2.heap.size, 3, none⟩ = some (.slice as' s.rules.streets.length cs) := ⟨(cellsS (KA.out.moved (m2)).b).1, (cellsS (KA.out.moved (m2)).b).2.1, (cellsS (KA.out.moved (m2)).b).2.2.1, (cellsS (KA.out.moved (m2)).b).2.2.2⟩
          refine wpAnyH_ready (rs := [2]) (by kernel_rfl) (by simp) ?_
          refine AllReadyH.cons rfl (fun K hK => ?_) (AllReadyH.nil)
          go_simp
          refine (record_deal D (fun b => Wd.heap.size ≤ b) _ _ _ _ s 3 _ (KA.out.moved m2).m.deck (KA.out.moved m2).s HNe.out HSD.out (by decide) (by decide)).mono ?_
          rintro e V3 ⟨_, r1, rfl, ⟨s1, rfl, hv1⟩, hi1, hc1, hsh1, mv⟩
          have m3 := m2.trans mv
          have hltgB := lt_of_blk gB; have gB := mv.blk (by omega) gB
          have hltgA := lt_of_blk gA; have gA := mv.blk (by omega) gA
          have hv1 := hv1.move (w' := V3) (S' := fun b => D < b ∧ b ≠ V1.heap.size ∧ b ≠ W5.heap.size) (Nat.le_refl _) fun b hb' hs => ⟨rfl, by have h1 := m2.size; have hs' := hs; omega⟩
          obtain ⟨a1, c1, es1⟩ := hv1.slice; subst es1
          have HC1 := Lib.hid (show checkN s r1 = 0 ∧ ∀ x ∈ r1.vals, x.length ≤ 64 from ⟨hc1, hsh1⟩); clear hc1 hsh1 mv hi1
          refine hK.out _ _ (⟨(cellsS (KA.out.moved (m3)).b).1, (cellsS (KA.out.moved (m3)).b).2.1, (cellsS (KA.out.moved (m3)).b).2.2.1, (cellsS (KA.out.moved (m3)).b).2.2.2⟩) (fun hHeld => ?_)
          clear hK K
          try simp only [List.getElem_toArray, List.getElem_cons_zero, List.getElem_cons_succ, Act.put, List.setIfInBounds_toArray, List.set_cons_zero, List.set_cons_succ]
          refine wpAnyH_ready (rs := [5]) (by kernel_rfl) (by simp) ?_
          refine AllReadyH.cons rfl (fun K hK => ?_) (AllReadyH.nil)
          go_simp
          refine (record_deal D (fun b => Wd.heap.size ≤ b) _ _ _ _ s 3 _ (KA.out.moved m3).m.deck (KA.out.moved m3).s HNe.out HSD.out (by decide) (by decide)).mono ?_
          rintro e V4 ⟨_, r2, rfl, ⟨s2, rfl, hv2⟩, hi2, hc2, hsh2, mv⟩
          have m4 := m3.trans mv
          have hltgB := lt_of_blk gB; have gB := mv.blk (by omega) gB
          have hltgA := lt_of_blk gA; have gA := mv.blk (by omega) gA
          have hv1 := hv1.move mv.size (S' := fun b => D < b ∧ b ≠ V1.heap.size ∧ b ≠ W5.heap.size) fun b hb' hs => ⟨mv.grown.block b hb' (by have hs' := hs; simp; omega), hs⟩
          have hv2 := hv2.move (w' := V4) (S' := fun b => D < b ∧ b ≠ V1.heap.size ∧ b ≠ W5.heap.size) (Nat.le_refl _) fun b hb' hs => ⟨rfl, by have h1 := m3.size; have hs' := hs; omega⟩
          obtain ⟨a2, c2, es2⟩ := hv2.slice; subst es2
          have HC2 := Lib.hid (show checkN s r2 = 0 ∧ ∀ x ∈ r2.vals, x.length ≤ 64 from ⟨hc2, hsh2⟩); clear hc2 hsh2 mv hi2
          refine hK.out _ _ (⟨(cellsS (KA.out.moved (m4)).b).1, (cellsS (KA.out.moved (m4)).b).2.1, (cellsS (KA.out.moved (m4)).b).2.2.1, (cellsS (KA.out.moved (m4)).b).2.2.2⟩) (fun hHeld => ?_)
          clear hK K
          try simp only [List.getElem_toArray, List.getElem_cons_zero, List.getElem_cons_succ, Act.put, List.setIfInBounds_toArray, List.set_cons_zero, List.set_cons_succ]
      all_goals
        have lA := lt_of_blk gA; obtain ⟨xA0, xA1, xA2⟩ := cells3 gA; have fA0 := frozen_of_row _ _ 0 _ _ gA; have fA1 := frozen_of_row _ _ 1 _ _ gA; have fA2 := frozen_of_row _ _ 2 _ _ gA
        have lB := lt_of_blk gB; obtain ⟨xB0, xB1, xB2⟩ := cells3 gB; have fB0 := frozen_of_row _ _ 0 _ _ gB; have fB1 := frozen_of_row _ _ 1 _ _ gB; have fB2 := frozen_of_row _ _ 2 _ _ gB
        have ms := ((m4.set (a := ⟨_, 0, none⟩) hrA (.int .i64 r1.id)).set (a := ⟨_, 1, none⟩) hrA (.int .i64 r1.ver)).set (a := ⟨_, 2, none⟩) hrA (.slice a1 r1.vals.length c1)
        have mt := ((ms.set (a := ⟨_, 0, none⟩) hrB (.int .i64 r2.id)).set (a := ⟨_, 1, none⟩) hrB (.int .i64 r2.ver)).set (a := ⟨_, 2, none⟩) hrB (.slice a2 r2.vals.length c2)
        refine wpAnyH_ready (rs := [8]) (by kernel_rfl) (by simp) ?_
        refine AllReadyH.cons rfl (fun K hK => ?_) AllReadyH.nil
        go_simp
        refine hK.out _ _ (⟨(cellsS (KA.out.moved (ms)).b).1, (cellsS (KA.out.moved (ms)).b).2.1, (cellsS (KA.out.moved (ms)).b).2.2.1, (cellsS (KA.out.moved (ms)).b).2.2.2⟩) (fun hHeld => ?_)
        clear hK K
        try simp only [List.getElem_toArray, List.getElem_cons_zero, List.getElem_cons_succ, Act.put, List.setIfInBounds_toArray, List.set_cons_zero, List.set_cons_succ]
        refine wpAnyH_ready (rs := [9]) (by kernel_rfl) (by simp) ?_
        refine AllReadyH.cons rfl (fun K hK => ?_) AllReadyH.nil
        go_simp
        refine hK.out _ _ (⟨(cellsS (KA.out.moved (mt)).b).1, (cellsS (KA.out.moved (mt)).b).2.1, (cellsS (KA.out.moved (mt)).b).2.2.1, (cellsS (KA.out.moved (mt)).b).2.2.2⟩) (fun hHeld => ?_)
        clear hK K
        try simp only [List.getElem_toArray, List.getElem_cons_zero, List.getElem_cons_succ, Act.put, List.setIfInBounds_toArray, List.set_cons_zero, List.set_cons_succ]
        refine wpAnyH_done (by kernel_rfl) ?_ _
        refine NoPanic.normal ?_
        go_wp2_with fail
        go_meet
        exact ⟨_, _, _, _, r1, r2, rfl, rfl, blk_far (blk_far (blk_far (blk_set (blk_set (blk_set gA))) hab) hab) hab, blk_set (blk_set (blk_set (blk_far (blk_far (blk_far gB hab.symm) hab.symm) hab.symm))), (((((hv1.far (fun b hb => hb.2.1)).far (fun b hb => hb.2.1)).far (fun b hb => hb.2.1)).far (fun b hb => hb.2.2)).far (fun b hb => hb.2.2)).far (fun b hb => hb.2.2), (((((hv2.far (fun b hb => hb.2.1)).far (fun b hb => hb.2.1)).far (fun b hb => hb.2.1)).far (fun b hb => hb.2.2)).far (fun b hb => hb.2.2)).far (fun b hb => hb.2.2), HC1, HC2, mt, hrA, hrB, hab⟩
    case rest =>
      obtain ⟨wB, hwB⟩ : ∃ u, u = wc := ⟨_, rfl⟩
      subst hwB
      obtain ⟨ra, rb, sa, sb, r1, r2, rfl, rfl, ga, gb, hva, hvb, HC1, HC2, mw, hra, hrb, hab⟩ := hcut
      obtain ⟨aa, ca, rfl⟩ := hva.slice
      obtain ⟨ab, cb, rfl⟩ := hvb.slice
      have zW5 := KA.out.m.deck.lt
      have hnD : ra ≠ D := by omega
      have KB := Lib.hid (KA.out.moved mw)
      have zBD := KB.out.m.deck.lt
      have hl1 : r1.vals.length = N := (checkN_ok HC1.out.1).2.2.1.trans HNN.out
      have hl2 : r2.vals.length = N := (checkN_ok HC2.out.1).2.2.1.trans HNN.out
      obtain ⟨f, hf⟩ : ∃ f : Nat, at_ % N = f := ⟨_, rfl⟩
      have hfN : f < N := by rw [← hf]; exact Nat.mod_lt _ (by omega)
      have hfm : (at_ : Int) % (N : Int) = (f : Int) := by rw [← hf]; exact (Int.natCast_emod at_ N).symm
      have hft : (at_ : Int).tmod (N : Int) = (f : Int) := by rw [Int.tmod_eq_emod_of_nonneg (by omega)]; exact hfm
      have hN0 : ((N : Int) == 0) = false := by simp; omega
      have HRc := Lib.hid (check_changed (id := 8) (ver := 3) (f := f) HC1.out.1 HC2.out.1 HC1.out.2 HC2.out.2 rfl (by rw [HNN.out]; exact hfN))
      have hf1 : f < r1.vals.length := by omega
      have hf2 : f < r2.vals.length := by omega
      have hp1 : 0 < r1.vals.length := by omega
      have hn1 : r1.vals.length ≤ 5 := by omega
      have hn2 : r2.vals.length ≤ 5 := by omega
      have HL1 := Lib.hid hl1; have HL2 := Lib.hid hl2
      have HGA := Lib.hid ga; have HGB := Lib.hid gb; have HVA := Lib.hid hva; have HVB := Lib.hid hvb
      have la := lt_of_blk ga; have lb := lt_of_blk gb
      obtain ⟨xa0, xa1, xa2⟩ := cells3 ga
      have HRd := Lib.hid (Vec.reads (k := 1) (fun _ => rfl) hva)
      have hcn : ([] : List (List UInt8)).length + r1.vals.length ≤ 1000000000 := by simp; omega
      clear hf hl1 hl2 ga gb hva hvb mw KA p0 p1 p2 p3 mD hrb hra
      obtain ⟨w0', w1', w2', w3'⟩ := cellsS KB.out.b
      go_wp2_with (at_builtin; refine wpList_append_v rfl (.const (.slice none 0 0)) (.tmp 54) 28 rfl 9 (.string ⟨#[]⟩) 1 16 encS (fun _ => rfl) oneG Tryz.underlying28 infoS rfl (by decide) (by decide) (w0 := wB) (v := .slice none 0 0) (A := []) (B := r1.vals) rfl (OwnV.start _ _ _ _) rfl HRd.out hcn ?_; intro v6 w6 ho6 hk6 hz6; obtain ⟨a6, c6, ev6⟩ := own_slice ho6.1; subst ev6)
      refine wp_world (fun W7 hW7 => ?_)
      have hb67 : Below w6.heap.size w6 W7 := by rw [hW7]; exact (Below.refl w6.heap.size w6).alloc (Nat.le_refl _) _
      have hc7 : W7.heap[w6.heap.size]? = some (.cells #[.int .i64 8, .int .i64 3, .slice a6 r1.vals.length c6] 45 (0, 0)) := by rw [hW7]; exact blk_new rfl
      clear hW7
      obtain ⟨g, cap6, cur6, eg, hg, hh6, -, -, -, -⟩ : ∃ g cap cur, Value.slice a6 r1.vals.length c6 = .slice (some ⟨g, 0, none⟩) r1.vals.length cap ∧ wB.heap.size ≤ g ∧ w6.heap[g]? = some (.cells cur 9 (0, 0)) ∧ True ∧ True ∧ True ∧ True := by
        rcases ho6.1.2 with ⟨_, h0⟩ | ⟨g, cap, cur, e, hg, hh, _⟩
        · rw [List.nil_append] at h0; omega
        · exact ⟨g, cap, cur, e, hg, hh, trivial, trivial, trivial, trivial⟩
      cases eg
      have hv6 : Vec w6 (fun b => wB.heap.size ≤ b) 1 encS (.slice (some ⟨g, 0, none⟩) r1.vals.length c6) r1.vals := OwnV.vec (size := 1) (enc := encS) (fun _ => rfl) ho6
      have hb6 := ho6.2
      have lg6 := lt_of_blk hh6
      obtain ⟨bb, ob, rfl, lbb, hcb⟩ := HVB.out.get f hf2
      have x0 := hcb 0 _ rfl
      rw [Nat.mul_one, Nat.add_zero] at x0
      obtain ⟨x, hx⟩ : ∃ x, r2.vals[f] = x := ⟨_, rfl⟩
      have hxd : r2.vals.getD f [] = x := by rw [getD_at _ _ hf2]; exact hx
      rw [hx] at x0
      have hz6 := hb6.size; have hz67 := hb67.size
      have x7 := (hb67.cell (p := ⟨bb, ob + f, none⟩) (by show bb < _; omega)).trans ((hb6.cell (p := ⟨bb, ob + f, none⟩) lbb).trans x0)
      have hgb7 := blk_below hb67 (by omega) (blk_below hb6 lb HGB.out)
      obtain ⟨o0, o1, eo, lo, hco⟩ := hv6.get f hf1
      cases eo
      have yc := hco 0 _ rfl
      rw [Nat.mul_one, Nat.add_zero, Nat.zero_add] at yc
      have yc7 := (hb67.cell (p := ⟨g, f, none⟩) lg6).trans yc
      have hg7 := blk_below hb67 lg6 hh6
      have fz7 := frozen_of_row _ _ f _ _ hg7
      have lg7 := lt_of_blk hg7
      obtain ⟨z0, z1, z2⟩ := cells3 hc7
      obtain ⟨q0, q1, q2⟩ := cells3 hgb7
      have lc7 := lt_of_blk hc7
      have hgc : w6.heap.size ≠ g := by omega
      have hgr : rb ≠ g := by omega
      have hgx : bb ≠ g := by omega
      have hf1' : (f : Int) < (r1.vals.length : Int) := by omega
      have hf2' : (f : Int) < (r2.vals.length : Int) := by omega
      have HC7 := Lib.hid hc7; have HGB7 := Lib.hid hgb7
      have m7 : Moved D wB W7 := ((Moved.start KB.out.m.deck).below hb6).below hb67
      have HM7 := Lib.hid m7
      have hvc := Vec.setS (((hv6.below hb67).below ((Below.refl W7.heap.size W7).drew))) f hf1 x
      rw [Nat.zero_add] at hvc
      have HVC := Lib.hid hvc
      have HX := Lib.hid hxd
      clear hb67 hc7 hh6 hv6 hb6 hcb hx hxd x0 hgb7 hco yc hg7 m7 hvc ho6 hk6 xa0 xa1 xa2 hcn w0' w1' w2' w3'
      refine wp_region_noPanic ?_
      refine wp_region_held_drew (S := (fun w' => w'.cell? ⟨w6.heap.size, 2, none⟩ = some (.slice (some ⟨g, 0, none⟩) r1.vals.length c6) ∧ w'.cell? ⟨rb, 2, none⟩ = some (.slice (some ⟨bb, ob, none⟩) r2.vals.length cb) ∧ w'.cell? ⟨bb, ob + f, none⟩ = some (strV x))) (by kernel_rfl) (⟨z2, q2, x7⟩) (fun hHeld => ?_)
      refine wpAnyH_take (i := 0) (v := ?_) rfl (by kernel_rfl) (by kernel_rfl) (by kernel_rfl) (fun _ _ _ h => h) (Or.inl ⟨by rfl, ?_⟩) (by assumption) ?_
      rotate_left 1
      · (intro wS hSw; (try dsimp only at hSw); go_simp; try with_reducible rfl)
      try simp only [List.getElem_toArray, List.getElem_cons_zero, List.getElem_cons_succ, Act.put, List.setIfInBounds_toArray, List.set_cons_zero, List.set_cons_succ]
      refine wpAnyH_take (i := 1) (v := ?_) rfl (by kernel_rfl) (by kernel_rfl) (by kernel_rfl) (fun _ _ _ h => h) (Or.inl ⟨by rfl, ?_⟩) (by assumption) ?_
      rotate_left 1
      · (intro wS hSw; (try dsimp only at hSw); go_simp; try with_reducible rfl)
      try simp only [List.getElem_toArray, List.getElem_cons_zero, List.getElem_cons_succ, Act.put, List.setIfInBounds_toArray, List.set_cons_zero, List.set_cons_succ]
      refine wpAnyH_take (i := 2) (v := ?_) rfl (by kernel_rfl) (by kernel_rfl) (by kernel_rfl) (fun _ _ _ h => h) (Or.inl ⟨by rfl, ?_⟩) (by assumption) ?_
      rotate_left 1
      · (intro wS hSw; (try dsimp only at hSw); go_simp; try with_reducible rfl)
      try simp only [List.getElem_toArray, List.getElem_cons_zero, List.getElem_cons_succ, Act.put, List.setIfInBounds_toArray, List.set_cons_zero, List.set_cons_succ]
      refine wpAnyH_take (i := 3) (v := ?_) rfl (by kernel_rfl) (by kernel_rfl) (by kernel_rfl) (fun _ _ _ h => h) (Or.inl ⟨by rfl, ?_⟩) (by assumption) ?_
      rotate_left 1
      · (intro wS hSw; (try dsimp only at hSw); go_simp; try with_reducible rfl)
      try simp only [List.getElem_toArray, List.getElem_cons_zero, List.getElem_cons_succ, Act.put, List.setIfInBounds_toArray, List.set_cons_zero, List.set_cons_succ]
      refine wpAnyH_take (i := 4) (v := ?_) rfl (by kernel_rfl) (by kernel_rfl) (by kernel_rfl) (fun _ _ _ h => h) (Or.inl ⟨by rfl, ?_⟩) (by assumption) ?_
      rotate_left 1
      · (intro wS hSw; (try dsimp only at hSw); go_simp; try with_reducible rfl)
      try simp only [List.getElem_toArray, List.getElem_cons_zero, List.getElem_cons_succ, Act.put, List.setIfInBounds_toArray, List.set_cons_zero, List.set_cons_succ]
      refine wpAnyH_take (i := 5) (v := ?_) rfl (by kernel_rfl) (by kernel_rfl) (by kernel_rfl) (fun _ _ _ h => h) (Or.inl ⟨by rfl, ?_⟩) (by assumption) ?_
      rotate_left 1
      · (intro wS hSw; (try dsimp only at hSw); go_simp; try with_reducible rfl)
      try simp only [List.getElem_toArray, List.getElem_cons_zero, List.getElem_cons_succ, Act.put, List.setIfInBounds_toArray, List.set_cons_zero, List.set_cons_succ]
      refine wpAnyH_take (i := 6) (v := ?_) rfl (by kernel_rfl) (by kernel_rfl) (by kernel_rfl) (fun _ _ _ h => h) (Or.inl ⟨by rfl, ?_⟩) (by assumption) ?_
      rotate_left 1
      · (intro wS hSw; (try dsimp only at hSw); go_simp; try with_reducible rfl)
      try simp only [List.getElem_toArray, List.getElem_cons_zero, List.getElem_cons_succ, Act.put, List.setIfInBounds_toArray, List.set_cons_zero, List.set_cons_succ]
      refine wpAnyH_take (i := 7) (v := ?_) rfl (by kernel_rfl) (by kernel_rfl) (by kernel_rfl) (fun _ _ _ h => h) (Or.inl ⟨by rfl, ?_⟩) (by assumption) ?_
      rotate_left 1
      · (intro wS hSw; (try dsimp only at hSw); go_simp; try with_reducible rfl)
      try simp only [List.getElem_toArray, List.getElem_cons_zero, List.getElem_cons_succ, Act.put, List.setIfInBounds_toArray, List.set_cons_zero, List.set_cons_succ]
      refine wpAnyH_take (i := 8) (v := ?_) rfl (by kernel_rfl) (by kernel_rfl) (by kernel_rfl) (fun _ _ _ h => h) (Or.inl ⟨by rfl, ?_⟩) (by assumption) ?_
      rotate_left 1
      · (intro wS hSw; (try dsimp only at hSw); go_simp; try with_reducible rfl)
      try simp only [List.getElem_toArray, List.getElem_cons_zero, List.getElem_cons_succ, Act.put, List.setIfInBounds_toArray, List.set_cons_zero, List.set_cons_succ]
      refine wpAnyH_ready (rs := [9]) (by kernel_rfl) (by simp) ?_
      refine AllReadyH.cons rfl (fun K hK => ?_) AllReadyH.nil
      go_simp
      refine hK.out _ _ (⟨(World.cell?_setCell_other _ _ _ _ (by intro e; have e1 := congrArg Addr.block e; exact hgc e1.symm)).trans z2, (World.cell?_setCell_other _ _ _ _ (by intro e; have e1 := congrArg Addr.block e; exact hgr e1.symm)).trans q2, (World.cell?_setCell_other _ _ _ _ (by intro e; have e1 := congrArg Addr.block e; exact hgx e1.symm)).trans x7⟩) (fun hHeld => ?_)
      clear hK K
      try simp only [List.getElem_toArray, List.getElem_cons_zero, List.getElem_cons_succ, Act.put, List.setIfInBounds_toArray, List.set_cons_zero, List.set_cons_succ]
      refine wpAnyH_done (by kernel_rfl) ?_ _
      refine NoPanic.normal ?_
      refine exitk_world (fun Wz hWz => ?_)
      have hmz : Moved D wB Wz := by rw [hWz]; exact (HM7.out.drew).set (a := ⟨g, f, none⟩) hg _
      have hcz : Wz.heap[w6.heap.size]? = some (.cells #[.int .i64 8, .int .i64 3, .slice (some ⟨g, 0, none⟩) r1.vals.length c6] 45 (0, 0)) := by rw [hWz]; exact blk_far HC7.out hgc
      have hvz : Vec Wz (fun b => wB.heap.size ≤ b) 1 encS (.slice (some ⟨g, 0, none⟩) r1.vals.length c6) (r1.vals.set f x) := by rw [hWz]; exact HVC.out
      have hga := hmz.blk hnD HGA.out
      have HVAz := Lib.hid (HVA.out.move (S' := fun b => D < b) hmz.size fun b hb hs => ⟨hmz.grown.block b hb (by have := hs.1; simp; omega), hs.1⟩)
      have KZ := Lib.hid (KB.out.moved hmz)
      have HRc2 := Lib.hid (show checkN s ⟨8, 3, r1.vals.set f x⟩ = 0 ∧ ∀ y ∈ r1.vals.set f x, y.length ≤ 64 by rw [← HX.out]; exact HRc.out)
      have HCz := Lib.hid hcz; have HVz := Lib.hid hvz
      have HGAz := Lib.hid hga
      have hCl : (r1.vals.set f x).length = r1.vals.length := List.length_set
      obtain ⟨C, hC⟩ : ∃ C, r1.vals.set f x = C := ⟨_, rfl⟩
      rw [hC] at HRc2 HVz hCl
      have HC := Lib.hid hC
      have HVz2 := Lib.hid HVz.out.any
      clear hWz hmz hcz hvz hga HVC HVA HVB HGA HGB HC7 HGB7 HM7 KB yc7 x7 fz7 z0 z1 z2 q0 q1 q2 hHeld HRc HX hC HVz
      have HVAz2 := Lib.hid HVAz.out.any
      clear HVAz
      rw [← hCl] at HCz HVz2
      have HCl := Lib.hid hCl
      clear hCl
      go_wp2_with fail
      go_loopw [68] (fun t wr => ∃ j : Nat, t = .int .i64 j ∧ j ≤ Ks.length ∧ Below Wz.heap.size Wz wr) (fun t _ => Ks.length - (intOf t).toNat)
      case atStart => exact ⟨0, rfl, by omega, Below.refl _ _⟩
      case round =>
        obtain ⟨j, rfl, hj, hbw⟩ := hrel
        obtain ⟨wo, rfl⟩ : ∃ wo : World, wo = wr := ⟨_, rfl⟩
        have HBo := Lib.hid hbw
        by_cases hlt : j < Ks.length
        · have hq : decide ((j : Int) < (Ks.length : Int)) = true := by simp; omega
          have hji : (j : Int) < (Ks.length : Int) := by omega
          have KO := Lib.hid (KZ.out.below hbw)
          obtain ⟨kb, ko, kc, rfl, lkb, kc0, hvK⟩ := KO.out.ks.at j hlt
          obtain ⟨K, hK⟩ : ∃ K, Ks.getD j [] = K := ⟨_, rfl⟩
          have hkey := HKO.out.key K (by rw [← hK, getD_at _ _ hlt]; exact List.getElem_mem hlt)
          rw [hK] at hvK
          obtain ⟨kca, kcn, kcc⟩ := kc
          dsimp only at kc0 hvK
          have hkl := hvK.len.1
          subst hkl
          have hK3' := hkey.len2
          have HKK := Lib.hid hK; have HKey := Lib.hid hkey; have HVK := Lib.hid hvK
          clear hK hkey hvK hbw
          go_wp2_with fail
          refine wp_world (fun W8 hW8 => ?_)
          have hb8 : Below wo.heap.size wo W8 := by rw [hW8]; exact (Below.refl wo.heap.size wo).alloc (Nat.le_refl _) _
          have hx8 : W8.heap[wo.heap.size]? = some (.cells #[.slice kca K.length kcc] 43 (0, 0)) := by rw [hW8]; exact blk_new rfl
          have HB8 := Lib.hid (HBo.out.trans (hb8.mono HBo.out.size)); have HVK8 := Lib.hid (HVK.out.below hb8)
          have g0 := (by rw [cell_of_row _ _ _ _ _ _ hx8]; rfl : W8.cell? ⟨wo.heap.size, 0, none⟩ = some (.slice kca K.length kcc))
          have lx8 := lt_of_blk hx8
          clear hb8 hx8 hW8 HVK kc0 lkb KO
          go_wp2_with fail
          go_loopw [15, 76] (fun u t wr => ∃ (i : Nat) (b : Bool), u = .bool b ∧ t = .int .i64 i ∧ i ≤ K.length ∧ Hid (usesB f (K.take i) = b) ∧ Below W8.heap.size W8 wr) (fun _ t _ => K.length - (intOf t).toNat)
          case atStart => exact ⟨0, false, rfl, rfl, by omega, Lib.hid rfl, Below.refl _ _⟩
          case round =>
            obtain ⟨i, b, rfl, rfl, hi, HE, hbw⟩ := hrel
            have HBW := Lib.hid hbw
            by_cases hil : i < K.length
            · have hq2 : decide ((i : Int) < (K.length : Int)) = true := by simp; omega
              have hii : (i : Int) < (K.length : Int) := by omega
              obtain ⟨cb0, co, rfl, lcb, hcc⟩ := (HVK8.out.below hbw).get i hil
              have d0 := hcc 0 _ rfl; have d1 := hcc 1 _ rfl
              rw [Nat.add_zero] at d0
              obtain ⟨c, hc⟩ : ∃ c, K[i] = c := ⟨_, rfl⟩
              have HE' := Lib.hid (show usesB f (K.take (i + 1)) = (b || (c.1 == (f : Int))) by unfold usesB; rw [any_snoc _ _ _ hil, hc]; exact congrArg (· || _) HE.out)
              rw [hc] at d0 d1
              obtain ⟨cf0, ct0⟩ := c
              clear hcc hc hbw HE
              cases b
              all_goals go_wp2_with fail
              all_goals go_roundw
              all_goals first | exact ⟨i + 1, _, rfl, by go_num, by omega, Lib.hid (HE'.out.trans (by simp)), HBW.out.alloc HBW.out.size _⟩ | (simp [intOf]; omega)
            · have hq2 : decide ((i : Int) < (K.length : Int)) = false := by simp; omega
              obtain rfl : i = K.length := by omega
              have e1 := HE.out
              rw [List.take_length] at e1
              obtain ⟨⟨h1, o1⟩, hh1⟩ : ∃ p, bhashN k j (K.map (compN r1.vals)) = p := ⟨_, rfl⟩
              obtain ⟨⟨h2, o2⟩, hh2⟩ : ∃ p, bhashN k j (K.map (compN C)) = p := ⟨_, rfl⟩
              have hsm : b = false → h2 = h1 ∧ o2 = o1 := by
                intro hb
                have := hash_others HKey.out (k := k) (i := j) (u := r1.vals) (x := x) (e1.trans hb)
                rw [HC.out, hh1, hh2] at this
                exact ⟨congrArg Prod.fst this, congrArg Prod.snd this⟩
              have hbz := HB8.out.trans (hbw.mono HB8.out.size)
              have KE := Lib.hid (KZ.out.below hbz)
              have HVA8 := Lib.hid (HVAz2.out.below hbz); have HVB8 := Lib.hid (HVz2.out.below hbz)
              have HGA8 := Lib.hid (blk_below hbz (lt_of_blk HGAz.out) HGAz.out); have HGB8 := Lib.hid (blk_below hbz (lt_of_blk HCz.out) HCz.out)
              obtain ⟨q0, q1, q2, q3⟩ := cellsS KE.out.b
              obtain ⟨e0, e3⟩ := cells2K KE.out.kk
              obtain ⟨x0, x1, x2⟩ := cells3 HGA8.out
              have HH1 := Lib.hid hh1; have HH2 := Lib.hid hh2; have HSM := Lib.hid hsm; have HBZ := Lib.hid hbz
              clear hh1 hh2 hsm e1 HE hbw hbz g0
              go_wp2_with fail
              have hh := bHash_yes (fun b => Wd.heap.size ≤ b) (fun b => Wd.heap.size ≤ b) (.slice af N cf) (.slice at' s.rules.titles.length ct) (.slice an s.rules.nicks.length cn) (.slice as' s.rules.streets.length cs) (.slice (some ⟨kb, ko, none⟩) Ks.length ck) s k Ks j r1 (.slice aa r1.vals.length ca) wr KE.out.s KE.out.ks HVA8.out HC1.out.1 HC1.out.2 HL1000.out HKO.out hlt
              rw [HKK.out, HH1.out] at hh
              refine hh.mono ?_
              rintro e w9 ⟨rfl, hb⟩
              clear hh q0 q1 q2 q3 e0 e3 x0 x1 x2
              have KF := Lib.hid (KE.out.below hb); have HVB9 := Lib.hid (HVB8.out.below hb); have HB9 := Lib.hid (HBZ.out.trans (hb.mono HBZ.out.size))
              obtain ⟨y0, y1, y2⟩ := cells3 (blk_below hb (lt_of_blk HGB8.out) HGB8.out)
              obtain ⟨q0, q1, q2, q3⟩ := cellsS KF.out.b
              obtain ⟨e0, e3⟩ := cells2K KF.out.kk
              clear hb KE
              go_wp2_with fail
              have hh := bHash_yes (fun b => Wd.heap.size ≤ b) (fun b => Wd.heap.size ≤ b) (.slice af N cf) (.slice at' s.rules.titles.length ct) (.slice an s.rules.nicks.length cn) (.slice as' s.rules.streets.length cs) (.slice (some ⟨kb, ko, none⟩) Ks.length ck) s k Ks j ⟨8, 3, C⟩ (.slice (some ⟨g, 0, none⟩) C.length c6) w9 KF.out.s KF.out.ks HVB9.out HRc2.out.1 HRc2.out.2 HL1000.out HKO.out hlt
              rw [HKK.out, HH2.out] at hh
              refine hh.mono ?_
              rintro e w10 ⟨rfl, hb⟩
              have HB10 := Lib.hid (HB9.out.trans (hb.mono HB9.out.size))
              clear hh hb KF q0 q1 q2 q3 e0 e3 y0 y1 y2
              cases b
              · obtain ⟨rfl, rfl⟩ := HSM.out rfl
                cases o2
                all_goals go_wp2_with fail
                all_goals go_roundw
                all_goals first | exact ⟨j + 1, by go_num, by omega, HB10.out⟩ | (simp [intOf]; omega)
              · go_wp2_with fail
                all_goals go_roundw
                all_goals first | exact ⟨j + 1, by go_num, by omega, HB10.out⟩ | (simp [intOf]; omega)
        · have hq : decide ((j : Int) < (Ks.length : Int)) = false := by simp; omega
          go_wp2_with fail
          go_ret
          exact ⟨rfl, (KZ.out.below hbw).m.base HB1.out (by omega)⟩
  · have hd : decide (n ≤ 400) = false := by simpa using hn
    clear hr hn
    go_enter Tryz.func4, Tryz.ntmps4
    go_wp2_with fail
    refine (awake_b _).mono ?_; rintro e w1 ⟨rfl, hb1⟩
    go_wp2_with fail
    refine (few_any a n cap _).mono ?_; rintro e w' ⟨rfl, rfl⟩
    go_wp2_with fail
    refine (awake_b _).mono ?_; rintro e w2 ⟨rfl, hb2⟩
    go_wp2_with fail
    go_ret
    exact ⟨rfl, hb1.trans (hb2.mono hb1.size)⟩
end Go.Proofs.YtdckkggmmakfiaaGreatDoor
end
section
namespace Go.Proofs.YtdckkggmmakfiaaGreatDoor.blockingOthers
open Go.ChangeShapes Go.WideShapes Go.ChangeAt Go.RowKit Go.Joins
open Go.ChangeMaps (open_string shut_string)
set_option linter.unusedVariables false

theorem own : ownKnob Tryz.prog.godebug = none := by kernel_rfl
theorem laidOut : laidOutB Tryz.prog = true := by kernel_rfl

set_option maxRecDepth 100000 in
theorem lifted (os : Os) (started : os.Started) (H : Type) (enc : TypeId × Value → H) :
    ReturnsInHanded {} Tryz.checked os 4 .any (fun w args => (Rows.blockingOthersSpec.pre enc Tryz.prog Tryz.f4 Rows.blockingOthersRow.domain false w args ∧ laidMetH Tryz.prog Rows.blockingOthersRow.laid w) ∧ sizedMet enc Tryz.prog Tryz.f4 (OpenSpec.ofChange Rows.blockingOthersSpec) false w args) (Rows.blockingOthersSpec.post enc Tryz.prog Tryz.f4 false true false false) := by
  refine returnsInHanded_of_change_and (C := Tryz.checked) (X := fun w _ => laidMetH Tryz.prog Rows.blockingOthersRow.laid w) (fun _ _ _ hh h => h.of_heap hh) own started (by kernel_rfl) Tryz.func4
    (ChangeSpec.witness_shaped (enc := enc) (C := Tryz.checked) (os := os) (X := fun w _ => laidMetH Tryz.prog Rows.blockingOthersRow.laid w) false (World.laidAll Tryz.prog os Rows.blockingOthersRow.laid) #[.slice none 0 0, .int .u8 0] 8 (World.laidAll_os _ _ _)
      (World.shaped_of_ZipB (by kernel_rfl) (by kernel_rfl)) (by kernel_rfl) (by kernel_rfl) (by kernel_rfl)
      (by rw [MakeChecks.laidMetH_plain _ _ _ (by kernel_rfl)]; exact laidMet_laidAll _ (by kernel_rfl) (by kernel_rfl))) ?_
  intro W base args ds gs before hval0 hW hcnd _ hLaid _
  have hval : ∀ (j : Nat) t v, Tryz.f4.params[j]? = some t → args[j]? = some v → Value.okWide Tryz.prog W .any base t v := hval0
  have hW' := hW
  obtain ⟨p, q, hA0, hV, rfl, hfz, hnd⟩ := hW
  have hA : DataW.TrodAll enc Tryz.prog W 0 (fun _ => true) true Tryz.f4.params.toList args.toList ds p := hA0
  rw [Tryz.params4] at hA hval
  obtain ⟨v0, vs0, d0, ds0, p0, q0, hargs, rfl, rfl, h0, r0⟩ := trodAll_cons hA
  obtain ⟨v1, vs1, d1, ds1, p1, q1, rfl, rfl, rfl, h1, r1⟩ := trodAll_cons r0
  obtain ⟨rfl, rfl, rfl⟩ := trodAll_nil r1
  obtain rfl : args = #[v0, v1] := by cases args; simp_all
  obtain ⟨rfl, rfl⟩ := trodVars_none hV
  obtain ⟨a0, len0, cap0, rfl⟩ := okWide_slice Tryz.underlying22 (hval 0 22 v0 rfl rfl)
  have k0 := h0
  have lt0 : ∀ x ∈ p0, x.block < W.heap.size := by obtain ⟨m, hm⟩ := k0; exact DataW.trod_lt m _ _ _ hm
  obtain ⟨z0, w0⟩ : ∃ zs, IsRow .i64 W a0 len0 cap0 zs := by
    obtain ⟨fuel, hf⟩ := h0
    rcases open_ints Tryz.underlying22 Tryz.underlying3 (by kernel_rfl) hf with ⟨hcs, _⟩ | ⟨x, l, c, zs, hcs, _, hl, hm, hz, _, hcell, hwz⟩
    · simp [Value.cells] at hcs
      obtain ⟨rfl, rfl, rfl⟩ := hcs
      exact ⟨[], .inl ⟨rfl, rfl, rfl, rfl⟩⟩
    · simp [Value.cells] at hcs
      obtain ⟨rfl, rfl, rfl⟩ := hcs
      exact ⟨zs, .inr ⟨_, rfl, hl, hm, by simpa using hz, hcell, hwz⟩⟩
  have k1 := h1
  have lt1 : ∀ x ∈ p1, x.block < W.heap.size := by obtain ⟨m, hm⟩ := k1; exact DataW.trod_lt m _ _ _ hm
  obtain ⟨x1, rfl, hd1, hp1, w1⟩ := open_int Tryz.underlying5 (hval 1 5 v1 rfl rfl) h1
  clear hA0 hval0
  refine (bothers_walk a0 len0 cap0 z0 x1 W w0 w1).mono fun e W' ⟨he, bel⟩ => ?_
  subst he
  exact ⟨_, rfl, _, _, _, [], _, [], hW', trodAll_mk1 (shut_bool Tryz.underlying4 _), (trodAll_cons_mk (Below.trod laidOut (by kernel_rfl) (of_decide_eq_true (by kernel_rfl)) k0 bel lt0) (trodAll_cons_mk (Below.trod laidOut (by kernel_rfl) (of_decide_eq_true (by kernel_rfl)) k1 bel lt1) trodAll_mk0)), rfl, bel.frame _, fun h => by cases h⟩

set_option maxRecDepth 100000 in
set_option maxHeartbeats 100000000 in
theorem over : Rows.blockingOthersRow.holds Tryz.pinned (OpenSpec.ofChange Rows.blockingOthersSpec) :=
  OpenClaim.holds_of_wide 4 Tryz.f4 rfl rfl rfl rfl rfl rfl rfl ⟨rfl, rfl, rfl, rfl, rfl⟩ rfl rfl rfl rfl rfl (by as_aux_lemma => kernel_rfl) Tryz.func4 closed
    (of_decide_eq_true (by as_aux_lemma => kernel_rfl)) (by unfold Func.isWrapper; first | (rw [if_pos (by decide +kernel)]; kernel_rfl) | (rw [if_neg (by decide +kernel)]; exact ⟨rfl, rfl⟩))
    (fun os started H enc _ => lifted os started H enc)

set_option maxRecDepth 100000 in
set_option maxHeartbeats 100000000 in
/-- THE STATEMENT -/
theorem proved : Rows.BlockingOthersCardSaid :=
  Claim7.holds_tied_plain_at .later [] [.data, .data, .data, .data, .pinned] true (true, "ceba54718281d68c1004b1f6c0eed38b4caf0cb2d958aa4dbdf1e11278135c4a") false
    over (fun _ h => by cases h) (by as_aux_lemma => kernel_rfl) (fun _ h => by cases h) blockingOthers_row_tie rfl ⟨rfl, rfl⟩ (by as_aux_lemma => kernel_rfl) rfl
    (fun f fn hf hfn => by
      obtain rfl : f = 4 := Option.some.inj ((show Tryz.prog.funcNamed Rows.blockingOthersRow.func = some 4 by kernel_rfl).symm.trans hf) |>.symm
      obtain rfl : fn = Tryz.f4 := (Option.some.inj (Tryz.func4.symm.trans hfn)).symm
      exact ⟨by kernel_rfl, fun j t ht => by
        rw [Tryz.params4] at ht
        have hm : t ∈ [22, 5] := by simpa using Array.mem_of_getElem? ht
        have hall : ([22, 5].all fun u => !Tryz.prog.wantsStandIn u) = true := by kernel_rfl
        exact (show Tryz.prog.wantsStandIn t = false by simpa using List.all_eq_true.1 hall t hm)⟩)
    (by as_aux_lemma => kernel_rfl)
#print axioms proved
end Go.Proofs.YtdckkggmmakfiaaGreatDoor.blockingOthers
end
